/-
  klippe/rational.quick: what it returns for a sign or none, at most nine digits, and then nothing, or a stroke and at most nine digits.
-/
import Derived.Lib.ItoaMem
import Derived.Lib.ItoaLen
import Derived.Lib.Atoi
import Derived.Lib.IndexMore
import Derived.Lib.Strings
import Derived.Test.YtkgiaicagecmpaaGreatDoorProg
import Derived.WalkKit
import Derived.WalkSpells
import Derived.WalkLawsBesides
import Derived.Lib.Hide
set_option linter.unusedSectionVars false
set_option linter.unusedVariables false
set_option linter.unusedSimpArgs false
namespace Klp
open Go Go.Lib
def dval (l : List UInt8) : Int := l.foldl (fun a c => 10 * a + ((c.toNat : Int) - 48)) 0
theorem dval_snoc (l : List UInt8) (c : UInt8) : dval (l ++ [c]) = 10 * dval l + ((c.toNat : Int) - 48) := by simp [dval]
def isDig (c : UInt8) : Prop := 48 ≤ c.toNat ∧ c.toNat ≤ 57
theorem toNat_dig {u : Nat} (h : u < 10) : (UInt8.ofNat (48 + u)).toNat = 48 + u := by
  have : 48 + u < 256 := by omega
  simp [Nat.mod_eq_of_lt this]
theorem dec_small {u : Nat} (h : u < 10) : decDigits u = [UInt8.ofNat (48 + u)] := by rw [decDigits, dif_pos h]
theorem dec_big {u : Nat} (h : ¬ u < 10) : decDigits u = decDigits (u / 10) ++ [UInt8.ofNat (48 + u % 10)] := by rw [decDigits, dif_neg h]
theorem dec_dig (u : Nat) : ∀ c ∈ decDigits u, isDig c := by
  induction u using Nat.strongRecOn with
  | _ u ih =>
    intro c hc
    by_cases h : u < 10
    · rw [dec_small h, List.mem_singleton] at hc
      subst hc
      unfold isDig
      rw [toNat_dig h]; omega
    · rw [dec_big h, List.mem_append] at hc
      rcases hc with hc | hc
      · exact ih (u / 10) (by omega) c hc
      · rw [List.mem_singleton] at hc
        subst hc
        unfold isDig
        rw [toNat_dig (by omega)]; omega
theorem dec_val (u : Nat) : dval (decDigits u) = u := by
  induction u using Nat.strongRecOn with
  | _ u ih =>
    by_cases h : u < 10
    · rw [dec_small h]
      simp only [dval, List.foldl_cons, List.foldl_nil, toNat_dig h]; omega
    · rw [dec_big h, dval_snoc, ih (u / 10) (by omega), toNat_dig (by omega)]; omega
theorem dec_pos (u : Nat) : 0 < (decDigits u).length := by rw [decDigits_length]; exact nDigits_pos u
theorem dec_len {u k : Nat} (hk : 1 ≤ k) (h : u < 10 ^ k) : (decDigits u).length ≤ k := by
  rw [decDigits_length]
  induction k generalizing u with
  | zero => omega
  | succ k ih =>
    by_cases hu : u < 10
    · rw [nDigits_small hu]; omega
    · rw [nDigits_big hu]
      rw [Nat.pow_succ] at h
      by_cases hk0 : k = 0
      · subst hk0; omega
      · have := ih (u := u / 10) (by omega) (by omega); omega
theorem dec_head {u : Nat} (h : 0 < u) : ∃ c r, decDigits u = c :: r ∧ c.toNat ≠ 48 ∧ isDig c := by
  induction u using Nat.strongRecOn with
  | _ u ih =>
    by_cases h10 : u < 10
    · exact ⟨_, [], dec_small h10, by rw [toNat_dig h10]; omega, by unfold isDig; rw [toNat_dig h10]; omega⟩
    · obtain ⟨c, r, e, hc, hd⟩ := ih (u / 10) (by omega) (by omega)
      exact ⟨c, r ++ [UInt8.ofNat (48 + u % 10)], by rw [dec_big h10, e]; rfl, hc, hd⟩
theorem dec_zero : decDigits 0 = [48] := by rw [dec_small (by omega)]; rfl
theorem itoa_eq (n : Int) : itoa n = (if n < 0 then [45] else []) ++ decDigits n.natAbs := by
  unfold itoa
  by_cases h : n < 0
  · rw [if_pos h, if_pos h]; rfl
  · rw [if_neg h, if_neg h, List.nil_append]; congr 1; omega
theorem itoa_neg' {n : Int} (h : n < 0) : itoa n = 45 :: decDigits n.natAbs := by rw [itoa_eq, if_pos h]; rfl
theorem itoa_pos' {n : Int} (h : ¬ n < 0) : itoa n = decDigits n.natAbs := by rw [itoa_eq, if_neg h]; rfl
theorem itoa_mem {n : Int} {c : UInt8} (h : c ∈ itoa n) : c = 45 ∨ isDig c := by
  rw [itoa_eq, List.mem_append] at h
  rcases h with h | h
  · by_cases hn : n < 0
    · rw [if_pos hn, List.mem_singleton] at h; exact .inl h
    · rw [if_neg hn] at h; cases h
  · exact .inr (dec_dig _ c h)
theorem itoa_no_stroke {n : Int} {c : UInt8} (h : c ∈ itoa n) : c ≠ 47 := by
  rcases itoa_mem h with rfl | h
  · decide
  · rintro rfl; exact absurd h.1 (by decide)
theorem dval_nn : ∀ (l : List UInt8) (a : Int), (∀ c ∈ l, isDig c) → 0 ≤ a → ∀ k : Nat, decFrom k l = some (l.foldl (fun (m : Nat) c => m * 10 + (c.toNat - 48)) k)
  | [], _, _, _, k => rfl
  | c :: l, a, h, ha, k => by
    have hc := h c (List.mem_cons_self ..)
    unfold isDig at hc
    simp only [decFrom, digitVal, hc, and_self, if_true, List.foldl_cons]
    exact dval_nn l a (fun x hx => h x (List.mem_cons_of_mem _ hx)) ha _
theorem fold_cast : ∀ (l : List UInt8) (k : Nat), (∀ c ∈ l, isDig c) → ((l.foldl (fun (m : Nat) c => m * 10 + (c.toNat - 48)) k : Nat) : Int) = l.foldl (fun a c => 10 * a + ((c.toNat : Int) - 48)) (k : Int)
  | [], _, _ => rfl
  | c :: l, k, h => by
    have hc := h c (List.mem_cons_self ..)
    unfold isDig at hc
    simp only [List.foldl_cons]
    rw [fold_cast l _ fun x hx => h x (List.mem_cons_of_mem _ hx)]
    congr 1
    omega
theorem decNat_dec (u : Nat) : decNat (decDigits u) = some u := by
  have hp := dec_pos u
  unfold decNat
  rw [if_neg (by simp; intro e; rw [e] at hp; simp at hp)]
  rw [dval_nn _ 0 (dec_dig u) (Int.le_refl 0) 0]
  have h1 := fold_cast (decDigits u) 0 (dec_dig u)
  have h2 := dec_val u
  unfold dval at h2
  have h3 : ((0 : Nat) : Int) = 0 := rfl
  rw [h3, h2] at h1
  rw [Option.some.injEq]
  omega
theorem atoi_itoa (n : Int) : atoi (itoa n) = some n := by
  by_cases h : n < 0
  · rw [itoa_neg' h]
    simp only [atoi, beq_self_eq_true, if_true, decNat_dec, Option.map_some, Option.some.injEq]
    omega
  · rw [itoa_pos' h]
    have hp := dec_pos n.natAbs
    cases hd : decDigits n.natAbs with
    | nil => rw [hd] at hp; simp at hp
    | cons c r =>
      have hc : isDig c := dec_dig n.natAbs c (by rw [hd]; exact List.mem_cons_self ..)
      unfold isDig at hc
      have h1 : (c == 45) = false := by rw [beq_eq_false_iff_ne]; rintro rfl; exact absurd hc.1 (by decide)
      have h2 : (c == 43) = false := by rw [beq_eq_false_iff_ne]; rintro rfl; exact absurd hc.1 (by decide)
      have h3 := decNat_dec n.natAbs
      rw [hd] at h3
      simp only [atoi, h1, h2, Bool.false_eq_true, if_false, h3, Option.map_some, Option.some.injEq]
      omega
theorem itoa_inj {m n : Int} (h : itoa m = itoa n) : m = n := by
  have h1 := atoi_itoa m
  rw [h, atoi_itoa n] at h1
  exact (Option.some.inj h1).symm
theorem itoa_zero : itoa 0 = [48] := by rw [itoa_pos' (by omega)]; exact dec_zero
theorem itoa_one : itoa 1 = [49] := by rw [itoa_pos' (by omega)]; exact dec_small (by omega)
theorem itoa_ne_nil (n : Int) : 0 < (itoa n).length := by
  rw [itoa_eq, List.length_append]; have := dec_pos n.natAbs; omega
def rs (n d : Int) : List UInt8 := if d = 1 then itoa n else itoa n ++ 47 :: itoa d
theorem rs_one (n : Int) : rs n 1 = itoa n := by simp [rs]
theorem rs_of {n d : Int} (h : d ≠ 1) : rs n d = itoa n ++ 47 :: itoa d := by simp [rs, h]
theorem index_none {l : List UInt8} (h : ∀ c ∈ l, c ≠ 47) : indexByte l 47 = -1 := by
  induction l with
  | nil => rfl
  | cons b l ih =>
    have h1 : (b == 47) = false := by rw [beq_eq_false_iff_ne]; exact h b (List.mem_cons_self ..)
    rw [indexByte, h1, ih fun c hc => h c (List.mem_cons_of_mem _ hc)]; rfl
theorem index_at {l r : List UInt8} (h : ∀ c ∈ l, c ≠ 47) : indexByte (l ++ 47 :: r) 47 = l.length := by
  induction l with
  | nil => simp [indexByte]
  | cons b l ih =>
    have h1 : (b == 47) = false := by rw [beq_eq_false_iff_ne]; exact h b (List.mem_cons_self ..)
    rw [List.cons_append, indexByte, h1, ih fun c hc => h c (List.mem_cons_of_mem _ hc)]
    have : (((l.length : Nat) : Int) == -1) = false := by rw [beq_eq_false_iff_ne]; omega
    simp [this]
theorem rs_inj {n d m e : Int} (h : rs n d = rs m e) : n = m ∧ d = e := by
  by_cases hd : d = 1
  · subst hd
    by_cases he : e = 1
    · subst he; rw [rs_one, rs_one] at h; exact ⟨itoa_inj h, rfl⟩
    · rw [rs_one, rs_of he] at h
      have := itoa_no_stroke (n := n) (c := 47) (by rw [h]; simp)
      exact absurd rfl this
  · by_cases he : e = 1
    · subst he
      rw [rs_one, rs_of hd] at h
      have := itoa_no_stroke (n := m) (c := 47) (by rw [← h]; simp)
      exact absurd rfl this
    · rw [rs_of hd, rs_of he] at h
      have h1 := index_at (r := itoa d) fun c hc => itoa_no_stroke (n := n) hc
      have h2 := index_at (r := itoa e) fun c hc => itoa_no_stroke (n := m) hc
      rw [h, h2] at h1
      have hl : (itoa n).length = (itoa m).length := by omega
      obtain ⟨e1, e2⟩ := List.append_inj h hl
      refine ⟨itoa_inj e1, itoa_inj ?_⟩
      simpa using e2
theorem rs_len {n d : Int} (h1 : -1000000000 < n) (h2 : n < 1000000000) (h3 : 0 < d) (h4 : d < 1000000000) : (rs n d).length ≤ 20 := by
  have p9 : (10 : Nat) ^ 9 = 1000000000 := by decide
  have a : (itoa n).length ≤ 10 := by
    rw [itoa_eq, List.length_append]
    have h5 := dec_len (u := n.natAbs) (k := 9) (by omega) (by omega)
    have h6 : (if n < 0 then [(45 : UInt8)] else []).length ≤ 1 := by split <;> simp
    omega
  have b : (itoa d).length ≤ 9 := by
    rw [itoa_pos' (by omega)]
    exact dec_len (by omega) (by omega)
  unfold rs
  split
  · omega
  · rw [List.length_append, List.length_cons]; omega
end Klp
namespace Go.Proofs.YtkgiaicagecmpaaGreatDoor
open Go.RowKit Go Klp
def valTo (s : ByteArray) (o k : Nat) : Int := dval ((s.data.toList.drop o).take (k - o))
theorem valTo_zero (s : ByteArray) (o : Nat) : valTo s o o = 0 := by simp [valTo, dval]
theorem valTo_succ (s : ByteArray) (o k : Nat) (h : k < s.size) (ho : o ≤ k) : valTo s o (k + 1) = 10 * valTo s o k + ((s[k].toNat : Int) - 48) := by
  unfold valTo
  have h1 : k - o < (s.data.toList.drop o).length := by simp; have : s.size = s.data.size := rfl; omega
  have h2 : o + (k - o) = k := by omega
  rw [show k + 1 - o = (k - o) + 1 from by omega, List.take_succ_eq_append_getElem h1, dval_snoc]
  simp only [List.getElem_drop, h2]
  rfl
def digTo (s : ByteArray) (o n : Nat) : Prop := ∀ k (h : k < s.size), o ≤ k → k < n → 48 ≤ s[k].toNat ∧ s[k].toNat ≤ 57
theorem valTo_bd (s : ByteArray) (o n : Nat) (hd : digTo s o n) (hn : n ≤ s.size) : ∀ j, o + j ≤ n → 0 ≤ valTo s o (o + j) ∧ valTo s o (o + j) < 10 ^ j
  | 0, _ => by simp [valTo_zero]
  | j + 1, hk => by
    have ih := valTo_bd s o n hd hn j (by omega)
    have h2 := hd (o + j) (by omega) (by omega) (by omega)
    rw [show o + (j + 1) = (o + j) + 1 from by omega, valTo_succ s o (o + j) (by omega) (by omega), Int.pow_succ]
    omega
theorem pow_le9 (k : Nat) (h : k ≤ 9) : (10 : Int) ^ k ≤ 1000000000 := by
  have : k = 0 ∨ k = 1 ∨ k = 2 ∨ k = 3 ∨ k = 4 ∨ k = 5 ∨ k = 6 ∨ k = 7 ∨ k = 8 ∨ k = 9 := by omega
  rcases this with rfl | rfl | rfl | rfl | rfl | rfl | rfl | rfl | rfl | rfl <;> decide
theorem valTo_lt (s : ByteArray) (o n k : Nat) (hd : digTo s o n) (hn : n ≤ s.size) (ho : o ≤ k) (hk : k ≤ n) (h9 : n ≤ o + 9) : 0 ≤ valTo s o k ∧ valTo s o k < 1000000000 := by
  have h := valTo_bd s o n hd hn (k - o) (by omega)
  have hp := pow_le9 (k - o) (by omega)
  rw [show o + (k - o) = k from by omega] at h
  omega
set_option maxHeartbeats 1000000 in
theorem quick_pn (s : ByteArray) (w : World) (B : Nat) (hB : B ≤ 9) (hB0 : 0 < B) (h0 : 0 < s.size) (h45 : ((s[0].toNat : Int) == 45) = false) (hd : digTo s 0 B) (hs : s.size = B) :
    Calls Tryz.prog 75 #[.string s] w fun e w' => e = .returned (.tuple #[.int .i64 (valTo s 0 B), .int .i64 (1), .bool true]) ∧ w' = w := by
  have HD := Lib.hid hd; clear hd
  have HS := Lib.hid hs
  have hs1 : s.size ≤ 30 := by omega
  have hs2 : B ≤ s.size := by omega
  clear hs
  go_enter Tryz.func75, Tryz.ntmps75
  go_wp2
  go_loop [2, 3, 4, 5] (fun n d f i => ∃ k : Nat, 0 ≤ k ∧ k ≤ B ∧ i = .int .i64 k ∧ n = .int .i64 (valTo s 0 k) ∧ d = .int .i64 0 ∧ f = .bool false) (fun _ _ _ i => 100 - (intOf i).toNat)
  case atStart => exact ⟨0, by omega, by omega, rfl, by rw [valTo_zero], rfl, rfl⟩
  case round =>
    obtain ⟨k, hk0, hk, rfl, rfl, rfl, rfl⟩ := hrel
    have hb := valTo_lt s 0 B k HD.out hs2 hk0 hk (by omega)
    by_cases hlt : k < B
    · have hkl : k < s.size := by omega
      have hdk := HD.out k hkl hk0 hlt
      have HP := Lib.hid (valTo_succ s 0 k hkl hk0)
      have h47' : ((s[k].toNat : Int) != 47) = true := by simp; omega
      go_wp2
      go_round
      case rel => exact ⟨k + 1, by omega, by omega, by go_num, by rw [HP.out], rfl, rfl⟩
      case measure => simp [intOf]; omega
    · obtain rfl : k = B := by omega
      have hge : ¬ k < s.size := by have := HS.out; omega
      have heq : (((k : Int)) == (s.size : Int)) = true := by have := HS.out; simp; omega
      go_wp2
      go_ret3
      exact ⟨rfl, rfl⟩
set_option maxHeartbeats 1000000 in
theorem quick_ps (s : ByteArray) (w : World) (B : Nat) (hB : B ≤ 9) (hB0 : 0 < B) (h0 : 0 < s.size) (h45 : ((s[0].toNat : Int) == 45) = false) (hd : digTo s 0 B) (M : Nat) (hM : M ≤ B + 10) (hs : s.size = M) (hsl : B < s.size) (h47 : ((s[B].toNat : Int) != 47) = false) (hd2 : digTo s (B + 1) M) :
    Calls Tryz.prog 75 #[.string s] w fun e w' => e = .returned (.tuple #[.int .i64 (valTo s 0 B), .int .i64 (valTo s (B + 1) M), .bool true]) ∧ w' = w := by
  have HD := Lib.hid hd; clear hd
  have HS := Lib.hid hs
  have hs1 : s.size ≤ 30 := by omega
  have hs2 : B ≤ s.size := by omega
  have HD2 := Lib.hid hd2; clear hd2
  have H47 := Lib.hid h47; clear h47
  clear hs
  go_enter Tryz.func75, Tryz.ntmps75
  go_wp2
  go_loop [2, 3, 4, 5] (fun n d f i => ∃ k : Nat, 0 ≤ k ∧ k ≤ B ∧ i = .int .i64 k ∧ n = .int .i64 (valTo s 0 k) ∧ d = .int .i64 0 ∧ f = .bool false) (fun _ _ _ i => 100 - (intOf i).toNat)
  case atStart => exact ⟨0, by omega, by omega, rfl, by rw [valTo_zero], rfl, rfl⟩
  case round =>
    obtain ⟨k, hk0, hk, rfl, rfl, rfl, rfl⟩ := hrel
    have hb := valTo_lt s 0 B k HD.out hs2 hk0 hk (by omega)
    by_cases hlt : k < B
    · have hkl : k < s.size := by omega
      have hdk := HD.out k hkl hk0 hlt
      have HP := Lib.hid (valTo_succ s 0 k hkl hk0)
      have h47' : ((s[k].toNat : Int) != 47) = true := by simp; omega
      go_wp2
      go_round
      case rel => exact ⟨k + 1, by omega, by omega, by go_num, by rw [HP.out], rfl, rfl⟩
      case measure => simp [intOf]; omega
    · obtain rfl : k = B := by omega
      have h47 := H47.out
      have hne : (((k : Int)) == (s.size : Int)) = false := by have := HS.out; simp; omega
      go_wp2
      go_loop [2, 3, 4, 5] (fun m n f i => ∃ j : Nat, k + 1 ≤ j ∧ j ≤ M ∧ i = .int .i64 j ∧ n = .int .i64 (valTo s (k + 1) j) ∧ m = .int .i64 (valTo s 0 k) ∧ f = .bool false) (fun _ _ _ i => 100 - (intOf i).toNat)
      case atStart => exact ⟨k + 1, by omega, by have := HS.out; omega, by go_num, by rw [valTo_zero], rfl, rfl⟩
      case round =>
        obtain ⟨j, hj0, hj, rfl, rfl, rfl, rfl⟩ := hrel
        have hb2 := valTo_lt s (k + 1) M j HD2.out (by have := HS.out; omega) hj0 hj (by omega)
        have hjs : j ≤ s.size := by have := HS.out; omega
        by_cases hlt2 : j < M
        · have hkl : j < s.size := by have := HS.out; omega
          have hdk := HD2.out j hkl hj0 hlt2
          have HP := Lib.hid (valTo_succ s (k + 1) j hkl hj0)
          have h9 : (((j : Int) - ((k : Int) + 1)) == 9) = false := by simp; omega
          go_wp2
          go_round
          case rel => exact ⟨j + 1, by omega, by omega, by go_num, by rw [HP.out], rfl, rfl⟩
          case measure => simp [intOf]; omega
        · obtain rfl : j = M := by omega
          have hge : ¬ j < s.size := by have := HS.out; omega
          go_wp2
          go_ret3
          exact ⟨rfl, rfl⟩
set_option maxHeartbeats 1000000 in
theorem quick_mn (s : ByteArray) (w : World) (B : Nat) (hB : B ≤ 10) (hB0 : 1 < B) (h0 : 0 < s.size) (h45 : ((s[0].toNat : Int) == 45) = true) (hd : digTo s 1 B) (hs : s.size = B) :
    Calls Tryz.prog 75 #[.string s] w fun e w' => e = .returned (.tuple #[.int .i64 (-valTo s 1 B), .int .i64 (1), .bool true]) ∧ w' = w := by
  have HD := Lib.hid hd; clear hd
  have HS := Lib.hid hs
  have hs1 : s.size ≤ 30 := by omega
  have hs2 : B ≤ s.size := by omega
  clear hs
  go_enter Tryz.func75, Tryz.ntmps75
  go_wp2
  go_loop [2, 3, 4, 5] (fun n d f i => ∃ k : Nat, 1 ≤ k ∧ k ≤ B ∧ i = .int .i64 k ∧ n = .int .i64 (valTo s 1 k) ∧ d = .int .i64 0 ∧ f = .bool false) (fun _ _ _ i => 100 - (intOf i).toNat)
  case atStart => exact ⟨1, by omega, by omega, rfl, by rw [valTo_zero], rfl, rfl⟩
  case round =>
    obtain ⟨k, hk0, hk, rfl, rfl, rfl, rfl⟩ := hrel
    have hb := valTo_lt s 1 B k HD.out hs2 hk0 hk (by omega)
    by_cases hlt : k < B
    · have hkl : k < s.size := by omega
      have hdk := HD.out k hkl hk0 hlt
      have HP := Lib.hid (valTo_succ s 1 k hkl hk0)
      have h47' : ((s[k].toNat : Int) != 47) = true := by simp; omega
      go_wp2
      go_round
      case rel => exact ⟨k + 1, by omega, by omega, by go_num, by rw [HP.out], rfl, rfl⟩
      case measure => simp [intOf]; omega
    · obtain rfl : k = B := by omega
      have hge : ¬ k < s.size := by have := HS.out; omega
      have heq : (((k : Int)) == (s.size : Int)) = true := by have := HS.out; simp; omega
      go_wp2
      go_ret3
      exact ⟨rfl, rfl⟩
set_option maxHeartbeats 1000000 in
theorem quick_ms (s : ByteArray) (w : World) (B : Nat) (hB : B ≤ 10) (hB0 : 1 < B) (h0 : 0 < s.size) (h45 : ((s[0].toNat : Int) == 45) = true) (hd : digTo s 1 B) (M : Nat) (hM : M ≤ B + 10) (hs : s.size = M) (hsl : B < s.size) (h47 : ((s[B].toNat : Int) != 47) = false) (hd2 : digTo s (B + 1) M) :
    Calls Tryz.prog 75 #[.string s] w fun e w' => e = .returned (.tuple #[.int .i64 (-valTo s 1 B), .int .i64 (valTo s (B + 1) M), .bool true]) ∧ w' = w := by
  have HD := Lib.hid hd; clear hd
  have HS := Lib.hid hs
  have hs1 : s.size ≤ 30 := by omega
  have hs2 : B ≤ s.size := by omega
  have HD2 := Lib.hid hd2; clear hd2
  have H47 := Lib.hid h47; clear h47
  clear hs
  go_enter Tryz.func75, Tryz.ntmps75
  go_wp2
  go_loop [2, 3, 4, 5] (fun n d f i => ∃ k : Nat, 1 ≤ k ∧ k ≤ B ∧ i = .int .i64 k ∧ n = .int .i64 (valTo s 1 k) ∧ d = .int .i64 0 ∧ f = .bool false) (fun _ _ _ i => 100 - (intOf i).toNat)
  case atStart => exact ⟨1, by omega, by omega, rfl, by rw [valTo_zero], rfl, rfl⟩
  case round =>
    obtain ⟨k, hk0, hk, rfl, rfl, rfl, rfl⟩ := hrel
    have hb := valTo_lt s 1 B k HD.out hs2 hk0 hk (by omega)
    by_cases hlt : k < B
    · have hkl : k < s.size := by omega
      have hdk := HD.out k hkl hk0 hlt
      have HP := Lib.hid (valTo_succ s 1 k hkl hk0)
      have h47' : ((s[k].toNat : Int) != 47) = true := by simp; omega
      go_wp2
      go_round
      case rel => exact ⟨k + 1, by omega, by omega, by go_num, by rw [HP.out], rfl, rfl⟩
      case measure => simp [intOf]; omega
    · obtain rfl : k = B := by omega
      have h47 := H47.out
      have hne : (((k : Int)) == (s.size : Int)) = false := by have := HS.out; simp; omega
      go_wp2
      go_loop [2, 3, 4, 5] (fun m n f i => ∃ j : Nat, k + 1 ≤ j ∧ j ≤ M ∧ i = .int .i64 j ∧ n = .int .i64 (valTo s (k + 1) j) ∧ m = .int .i64 (-valTo s 1 k) ∧ f = .bool false) (fun _ _ _ i => 100 - (intOf i).toNat)
      case atStart => exact ⟨k + 1, by omega, by have := HS.out; omega, by go_num, by rw [valTo_zero], rfl, rfl⟩
      case round =>
        obtain ⟨j, hj0, hj, rfl, rfl, rfl, rfl⟩ := hrel
        have hb2 := valTo_lt s (k + 1) M j HD2.out (by have := HS.out; omega) hj0 hj (by omega)
        have hjs : j ≤ s.size := by have := HS.out; omega
        by_cases hlt2 : j < M
        · have hkl : j < s.size := by have := HS.out; omega
          have hdk := HD2.out j hkl hj0 hlt2
          have HP := Lib.hid (valTo_succ s (k + 1) j hkl hj0)
          have h9 : (((j : Int) - ((k : Int) + 1)) == 9) = false := by simp; omega
          go_wp2
          go_round
          case rel => exact ⟨j + 1, by omega, by omega, by go_num, by rw [HP.out], rfl, rfl⟩
          case measure => simp [intOf]; omega
        · obtain rfl : j = M := by omega
          have hge : ¬ j < s.size := by have := HS.out; omega
          go_wp2
          go_ret3
          exact ⟨rfl, rfl⟩
theorem size_mk (l : List UInt8) : (⟨l.toArray⟩ : ByteArray).size = l.length := by simp [ByteArray.size]
theorem get_mk (l : List UInt8) (k : Nat) (h : k < (⟨l.toArray⟩ : ByteArray).size) (h' : k < l.length) : (⟨l.toArray⟩ : ByteArray)[k] = l[k] := rfl
theorem digTo_mk {p q r : List UInt8} (hq : ∀ c ∈ q, isDig c) : digTo ⟨(p ++ (q ++ r)).toArray⟩ p.length (p.length + q.length) := by
  intro k h h1 h2
  have hk : k < (p ++ (q ++ r)).length := by rw [size_mk] at h; exact h
  rw [get_mk _ k h hk, List.getElem_append_right h1, List.getElem_append_left (by omega)]
  exact hq _ (List.getElem_mem ..)
theorem valTo_mk (p q r : List UInt8) : valTo ⟨(p ++ (q ++ r)).toArray⟩ p.length (p.length + q.length) = dval q := by
  unfold valTo
  simp only [List.drop_left, Nat.add_sub_cancel_left, List.take_left]
theorem quick_rs (n d : Int) (w : World) (h1 : -1000000000 < n) (h2 : n < 1000000000) (h3 : 0 < d) (h4 : d < 1000000000) :
    Calls Tryz.prog 75 #[.string ⟨(rs n d).toArray⟩] w fun e w' => e = .returned (.tuple #[.int .i64 n, .int .i64 d, .bool true]) ∧ w' = w := by
  have p9 : (10 : Nat) ^ 9 = 1000000000 := by decide
  have l1 := dec_len (u := n.natAbs) (k := 9) (by omega) (by omega)
  have l2 := dec_len (u := d.natAbs) (k := 9) (by omega) (by omega)
  have q1 := dec_pos n.natAbs
  have q2 := dec_pos d.natAbs
  have v1 := dec_val n.natAbs
  have v2 := dec_val d.natAbs
  have hdp : ¬ d < 0 := by omega
  by_cases hn : n < 0
  · by_cases hd : d = 1
    · subst hd
      rw [rs_one, itoa_neg' hn]
      have e : (45 :: Lib.decDigits n.natAbs) = [45] ++ (Lib.decDigits n.natAbs ++ []) := by simp
      have hv := valTo_mk [45] (Lib.decDigits n.natAbs) []
      have hdg := digTo_mk (p := [45]) (r := []) (dec_dig n.natAbs)
      rw [← e] at hv hdg
      simp only [List.length_singleton] at hv hdg
      refine (quick_mn ⟨(45 :: Lib.decDigits n.natAbs).toArray⟩ w (1 + (Lib.decDigits n.natAbs).length) (by omega) (by omega) (by rw [size_mk]; simp) rfl hdg (by rw [size_mk]; simp; omega)).mono ?_
      rintro e w' ⟨rfl, rfl⟩
      refine ⟨?_, rfl⟩
      rw [hv, v1]
      congr 5
      omega
    · rw [rs_of hd, itoa_neg' hn, itoa_pos' hdp]
      have e : (45 :: Lib.decDigits n.natAbs ++ 47 :: Lib.decDigits d.natAbs) = [45] ++ (Lib.decDigits n.natAbs ++ 47 :: Lib.decDigits d.natAbs) := by simp
      have e' : (45 :: Lib.decDigits n.natAbs ++ 47 :: Lib.decDigits d.natAbs) = ([45] ++ Lib.decDigits n.natAbs ++ [47]) ++ (Lib.decDigits d.natAbs ++ []) := by simp
      have hv := valTo_mk [45] (Lib.decDigits n.natAbs) (47 :: Lib.decDigits d.natAbs)
      have hdg := digTo_mk (p := [45]) (r := 47 :: Lib.decDigits d.natAbs) (dec_dig n.natAbs)
      have hv2 := valTo_mk ([45] ++ Lib.decDigits n.natAbs ++ [47]) (Lib.decDigits d.natAbs) []
      have hdg2 := digTo_mk (p := [45] ++ Lib.decDigits n.natAbs ++ [47]) (r := []) (dec_dig d.natAbs)
      rw [← e] at hv hdg
      rw [← e'] at hv2 hdg2
      have el : ([45] ++ Lib.decDigits n.natAbs ++ [47]).length = 1 + (Lib.decDigits n.natAbs).length + 1 := by simp; omega
      rw [el] at hv2 hdg2
      simp only [List.length_singleton] at hv hdg
      have hs : (⟨(45 :: Lib.decDigits n.natAbs ++ 47 :: Lib.decDigits d.natAbs).toArray⟩ : ByteArray).size = 1 + (Lib.decDigits n.natAbs).length + 1 + (Lib.decDigits d.natAbs).length := by rw [size_mk]; simp; omega
      refine (quick_ms ⟨(45 :: Lib.decDigits n.natAbs ++ 47 :: Lib.decDigits d.natAbs).toArray⟩ w (1 + (Lib.decDigits n.natAbs).length) (by omega) (by omega) (by omega) rfl hdg (1 + (Lib.decDigits n.natAbs).length + 1 + (Lib.decDigits d.natAbs).length) (by omega) hs (by omega) ?_ hdg2).mono ?_
      · rw [get_mk _ _ (by omega) (by simp; omega), List.getElem_append_right (by simp; omega)]
        simp [Nat.add_comm]
      · rintro e w' ⟨rfl, rfl⟩
        refine ⟨?_, rfl⟩
        rw [hv, v1, hv2, v2]
        have a1 : -((n.natAbs : Nat) : Int) = n := by omega
        have a2 : ((d.natAbs : Nat) : Int) = d := by omega
        rw [a1, a2]
  · obtain ⟨c, r, hc, hcd⟩ : ∃ c r, Lib.decDigits n.natAbs = c :: r ∧ isDig c := by
      cases hl : Lib.decDigits n.natAbs with
      | nil => rw [hl] at q1; simp at q1
      | cons c r => exact ⟨c, r, rfl, dec_dig n.natAbs c (by rw [hl]; exact List.mem_cons_self ..)⟩
    unfold isDig at hcd
    have h45 : (((c.toNat : Nat) : Int) == 45) = false := by rw [beq_eq_false_iff_ne]; omega
    by_cases hd : d = 1
    · subst hd
      rw [rs_one, itoa_pos' hn]
      have e : Lib.decDigits n.natAbs = [] ++ (Lib.decDigits n.natAbs ++ []) := by simp
      have hv := valTo_mk [] (Lib.decDigits n.natAbs) []
      have hdg := digTo_mk (p := []) (r := []) (dec_dig n.natAbs)
      rw [← e] at hv hdg
      simp only [List.length_nil, Nat.zero_add] at hv hdg
      refine (quick_pn ⟨(Lib.decDigits n.natAbs).toArray⟩ w (Lib.decDigits n.natAbs).length (by omega) (by omega) (by rw [size_mk]; omega) ?_ hdg (by rw [size_mk])).mono ?_
      · rw [get_mk _ 0 (by rw [size_mk]; omega) q1]
        simp only [hc, List.getElem_cons_zero]
        exact h45
      · rintro e w' ⟨rfl, rfl⟩
        refine ⟨?_, rfl⟩
        rw [hv, v1]
        have a1 : ((n.natAbs : Nat) : Int) = n := by omega
        rw [a1]
    · rw [rs_of hd, itoa_pos' hn, itoa_pos' hdp]
      have e : (Lib.decDigits n.natAbs ++ 47 :: Lib.decDigits d.natAbs) = [] ++ (Lib.decDigits n.natAbs ++ 47 :: Lib.decDigits d.natAbs) := by simp
      have e' : (Lib.decDigits n.natAbs ++ 47 :: Lib.decDigits d.natAbs) = (Lib.decDigits n.natAbs ++ [47]) ++ (Lib.decDigits d.natAbs ++ []) := by simp
      have hv := valTo_mk [] (Lib.decDigits n.natAbs) (47 :: Lib.decDigits d.natAbs)
      have hdg := digTo_mk (p := []) (r := 47 :: Lib.decDigits d.natAbs) (dec_dig n.natAbs)
      have hv2 := valTo_mk (Lib.decDigits n.natAbs ++ [47]) (Lib.decDigits d.natAbs) []
      have hdg2 := digTo_mk (p := Lib.decDigits n.natAbs ++ [47]) (r := []) (dec_dig d.natAbs)
      rw [← e] at hv hdg
      rw [← e'] at hv2 hdg2
      have el : (Lib.decDigits n.natAbs ++ [47]).length = (Lib.decDigits n.natAbs).length + 1 := by simp
      rw [el] at hv2 hdg2
      simp only [List.length_nil, Nat.zero_add] at hv hdg
      have hs : (⟨(Lib.decDigits n.natAbs ++ 47 :: Lib.decDigits d.natAbs).toArray⟩ : ByteArray).size = (Lib.decDigits n.natAbs).length + 1 + (Lib.decDigits d.natAbs).length := by rw [size_mk]; simp; omega
      refine (quick_ps ⟨(Lib.decDigits n.natAbs ++ 47 :: Lib.decDigits d.natAbs).toArray⟩ w (Lib.decDigits n.natAbs).length (by omega) (by omega) (by omega) ?_ hdg ((Lib.decDigits n.natAbs).length + 1 + (Lib.decDigits d.natAbs).length) (by omega) hs (by omega) ?_ hdg2).mono ?_
      · rw [get_mk _ 0 (by omega) (by simp; omega), List.getElem_append_left (by omega)]
        simp only [hc, List.getElem_cons_zero]
        exact h45
      · rw [get_mk _ _ (by omega) (by simp), List.getElem_append_right (by omega)]
        simp
      · rintro e w' ⟨rfl, rfl⟩
        refine ⟨?_, rfl⟩
        rw [hv, v1, hv2, v2]
        have a1 : ((n.natAbs : Nat) : Int) = n := by omega
        have a2 : ((d.natAbs : Nat) : Int) = d := by omega
        rw [a1, a2]
end Go.Proofs.YtkgiaicagecmpaaGreatDoor
