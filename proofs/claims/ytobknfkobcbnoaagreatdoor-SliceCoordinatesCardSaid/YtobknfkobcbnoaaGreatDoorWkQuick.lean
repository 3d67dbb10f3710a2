/-
  klippe/rational.quick: what it returns for a sign or none, at most nine digits, and then nothing, or a stroke and at most nine digits.
-/
import Derived.Test.YtobknfkobcbnoaaGreatDoorProg
import Derived.Test.YtobknfkobcbnoaaGreatDoorRatText
import Derived.WalkKit
import Derived.WalkSpells
import Derived.WalkLawsBesides
import Derived.Lib.Hide
set_option linter.unusedSectionVars false
set_option linter.unusedVariables false
set_option linter.unusedSimpArgs false
namespace Go.Proofs.YtobknfkobcbnoaaGreatDoor
open Go.RowKit Go Klp
/-- the number that the bytes from place o on, up to place k, spell -/
def valTo (s : ByteArray) (o k : Nat) : Int := dval ((s.data.toList.drop o).take (k - o))
theorem valTo_zero (s : ByteArray) (o : Nat) : valTo s o o = 0 := by simp [valTo, dval]
theorem valTo_succ (s : ByteArray) (o k : Nat) (h : k < s.size) (ho : o ≤ k) : valTo s o (k + 1) = 10 * valTo s o k + ((s[k].toNat : Int) - 48) := by
  unfold valTo
  have h1 : k - o < (s.data.toList.drop o).length := by simp; have : s.size = s.data.size := rfl; omega
  have h2 : o + (k - o) = k := by omega
  rw [show k + 1 - o = (k - o) + 1 from by omega, List.take_succ_eq_append_getElem h1, dval_snoc]
  simp only [List.getElem_drop, h2]
  rfl
/-- the bytes from place o on, up to place n, are digits -/
def digTo (s : ByteArray) (o n : Nat) : Prop := ∀ k (h : k < s.size), o ≤ k → k < n → 48 ≤ s[k].toNat ∧ s[k].toNat ≤ 57
theorem valTo_bd (s : ByteArray) (o n : Nat) (hd : digTo s o n) (hn : n ≤ s.size) : ∀ j, o + j ≤ n → 0 ≤ valTo s o (o + j) ∧ valTo s o (o + j) < 10 ^ j
  | 0, _ => by simp [valTo_zero]
  | j + 1, hk => by
    have ih := valTo_bd s o n hd hn j (by omega)
    have h2 := hd (o + j) (by omega) (by omega) (by omega)
    rw [show o + (j + 1) = (o + j) + 1 from by omega, valTo_succ s o (o + j) (by omega) (by omega), Int.pow_succ]
    omega
theorem pow_le9 (k : Nat) (h : k ≤ 9) : (10 : Int) ^ k ≤ 1000000000 := by
  have : k = 0 ∨ k = 1 ∨ k = 2 ∨ k = 3 ∨ k = 4 ∨ k = 5 ∨ k = 6 ∨ k = 7 ∨ k = 8 ∨ k = 9 := by omega
  rcases this with rfl | rfl | rfl | rfl | rfl | rfl | rfl | rfl | rfl | rfl <;> decide
theorem valTo_lt (s : ByteArray) (o n k : Nat) (hd : digTo s o n) (hn : n ≤ s.size) (ho : o ≤ k) (hk : k ≤ n) (h9 : n ≤ o + 9) : 0 ≤ valTo s o k ∧ valTo s o k < 1000000000 := by
  have h := valTo_bd s o n hd hn (k - o) (by omega)
  have hp := pow_le9 (k - o) (by omega)
  rw [show o + (k - o) = k from by omega] at h
  omega

set_option maxHeartbeats 1000000 in
theorem quick_pn (s : ByteArray) (w : World) (B : Nat) (hB : B ≤ 9) (hB0 : 0 < B) (h0 : 0 < s.size) (h45 : ((s[0].toNat : Int) == 45) = false) (hd : digTo s 0 B) (hs : s.size = B) :
    Calls Tryz.prog 59 #[.string s] w fun e w' => e = .returned (.tuple #[.int .i64 (valTo s 0 B), .int .i64 (1), .bool true]) ∧ w' = w := by
  have HD := Lib.hid hd; clear hd
  have HS := Lib.hid hs
  have hs1 : s.size ≤ 30 := by omega
  have hs2 : B ≤ s.size := by omega
  clear hs
  go_enter Tryz.func59, Tryz.ntmps59
  go_wp2
  go_loop [2, 3, 4, 5] (fun n d f i => ∃ k : Nat, 0 ≤ k ∧ k ≤ B ∧ i = .int .i64 k ∧ n = .int .i64 (valTo s 0 k) ∧ d = .int .i64 0 ∧ f = .bool false) (fun _ _ _ i => 100 - (intOf i).toNat)
  case atStart => exact ⟨0, by omega, by omega, rfl, by rw [valTo_zero], rfl, rfl⟩
  case round =>
    obtain ⟨k, hk0, hk, rfl, rfl, rfl, rfl⟩ := hrel
    have hb := valTo_lt s 0 B k HD.out hs2 hk0 hk (by omega)
    by_cases hlt : k < B
    · have hkl : k < s.size := by omega
      have hdk := HD.out k hkl hk0 hlt
      have HP := Lib.hid (valTo_succ s 0 k hkl hk0)
      have h47' : ((s[k].toNat : Int) != 47) = true := by simp; omega
      go_wp2
      go_round
      case rel => exact ⟨k + 1, by omega, by omega, by go_num, by rw [HP.out], rfl, rfl⟩
      case measure => simp [intOf]; omega
    · obtain rfl : k = B := by omega
      have hge : ¬ k < s.size := by have := HS.out; omega
      have heq : (((k : Int)) == (s.size : Int)) = true := by have := HS.out; simp; omega
      go_wp2
      go_ret3
      exact ⟨rfl, rfl⟩
set_option maxHeartbeats 1000000 in
theorem quick_ps (s : ByteArray) (w : World) (B : Nat) (hB : B ≤ 9) (hB0 : 0 < B) (h0 : 0 < s.size) (h45 : ((s[0].toNat : Int) == 45) = false) (hd : digTo s 0 B) (M : Nat) (hM : M ≤ B + 10) (hs : s.size = M) (hsl : B < s.size) (h47 : ((s[B].toNat : Int) != 47) = false) (hd2 : digTo s (B + 1) M) :
    Calls Tryz.prog 59 #[.string s] w fun e w' => e = .returned (.tuple #[.int .i64 (valTo s 0 B), .int .i64 (valTo s (B + 1) M), .bool true]) ∧ w' = w := by
  have HD := Lib.hid hd; clear hd
  have HS := Lib.hid hs
  have hs1 : s.size ≤ 30 := by omega
  have hs2 : B ≤ s.size := by omega
  have HD2 := Lib.hid hd2; clear hd2
  have H47 := Lib.hid h47; clear h47
  clear hs
  go_enter Tryz.func59, Tryz.ntmps59
  go_wp2
  go_loop [2, 3, 4, 5] (fun n d f i => ∃ k : Nat, 0 ≤ k ∧ k ≤ B ∧ i = .int .i64 k ∧ n = .int .i64 (valTo s 0 k) ∧ d = .int .i64 0 ∧ f = .bool false) (fun _ _ _ i => 100 - (intOf i).toNat)
  case atStart => exact ⟨0, by omega, by omega, rfl, by rw [valTo_zero], rfl, rfl⟩
  case round =>
    obtain ⟨k, hk0, hk, rfl, rfl, rfl, rfl⟩ := hrel
    have hb := valTo_lt s 0 B k HD.out hs2 hk0 hk (by omega)
    by_cases hlt : k < B
    · have hkl : k < s.size := by omega
      have hdk := HD.out k hkl hk0 hlt
      have HP := Lib.hid (valTo_succ s 0 k hkl hk0)
      have h47' : ((s[k].toNat : Int) != 47) = true := by simp; omega
      go_wp2
      go_round
      case rel => exact ⟨k + 1, by omega, by omega, by go_num, by rw [HP.out], rfl, rfl⟩
      case measure => simp [intOf]; omega
    · obtain rfl : k = B := by omega
      have h47 := H47.out
      have hne : (((k : Int)) == (s.size : Int)) = false := by have := HS.out; simp; omega
      go_wp2
      go_loop [2, 3, 4, 5] (fun m n f i => ∃ j : Nat, k + 1 ≤ j ∧ j ≤ M ∧ i = .int .i64 j ∧ n = .int .i64 (valTo s (k + 1) j) ∧ m = .int .i64 (valTo s 0 k) ∧ f = .bool false) (fun _ _ _ i => 100 - (intOf i).toNat)
      case atStart => exact ⟨k + 1, by omega, by have := HS.out; omega, by go_num, by rw [valTo_zero], rfl, rfl⟩
      case round =>
        obtain ⟨j, hj0, hj, rfl, rfl, rfl, rfl⟩ := hrel
        have hb2 := valTo_lt s (k + 1) M j HD2.out (by have := HS.out; omega) hj0 hj (by omega)
        have hjs : j ≤ s.size := by have := HS.out; omega
        by_cases hlt2 : j < M
        · have hkl : j < s.size := by have := HS.out; omega
          have hdk := HD2.out j hkl hj0 hlt2
          have HP := Lib.hid (valTo_succ s (k + 1) j hkl hj0)
          have h9 : (((j : Int) - ((k : Int) + 1)) == 9) = false := by simp; omega
          go_wp2
          go_round
          case rel => exact ⟨j + 1, by omega, by omega, by go_num, by rw [HP.out], rfl, rfl⟩
          case measure => simp [intOf]; omega
        · obtain rfl : j = M := by omega
          have hge : ¬ j < s.size := by have := HS.out; omega
          go_wp2
          go_ret3
          exact ⟨rfl, rfl⟩
set_option maxHeartbeats 1000000 in
theorem quick_mn (s : ByteArray) (w : World) (B : Nat) (hB : B ≤ 10) (hB0 : 1 < B) (h0 : 0 < s.size) (h45 : ((s[0].toNat : Int) == 45) = true) (hd : digTo s 1 B) (hs : s.size = B) :
    Calls Tryz.prog 59 #[.string s] w fun e w' => e = .returned (.tuple #[.int .i64 (-valTo s 1 B), .int .i64 (1), .bool true]) ∧ w' = w := by
  have HD := Lib.hid hd; clear hd
  have HS := Lib.hid hs
  have hs1 : s.size ≤ 30 := by omega
  have hs2 : B ≤ s.size := by omega
  clear hs
  go_enter Tryz.func59, Tryz.ntmps59
  go_wp2
  go_loop [2, 3, 4, 5] (fun n d f i => ∃ k : Nat, 1 ≤ k ∧ k ≤ B ∧ i = .int .i64 k ∧ n = .int .i64 (valTo s 1 k) ∧ d = .int .i64 0 ∧ f = .bool false) (fun _ _ _ i => 100 - (intOf i).toNat)
  case atStart => exact ⟨1, by omega, by omega, rfl, by rw [valTo_zero], rfl, rfl⟩
  case round =>
    obtain ⟨k, hk0, hk, rfl, rfl, rfl, rfl⟩ := hrel
    have hb := valTo_lt s 1 B k HD.out hs2 hk0 hk (by omega)
    by_cases hlt : k < B
    · have hkl : k < s.size := by omega
      have hdk := HD.out k hkl hk0 hlt
      have HP := Lib.hid (valTo_succ s 1 k hkl hk0)
      have h47' : ((s[k].toNat : Int) != 47) = true := by simp; omega
      go_wp2
      go_round
      case rel => exact ⟨k + 1, by omega, by omega, by go_num, by rw [HP.out], rfl, rfl⟩
      case measure => simp [intOf]; omega
    · obtain rfl : k = B := by omega
      have hge : ¬ k < s.size := by have := HS.out; omega
      have heq : (((k : Int)) == (s.size : Int)) = true := by have := HS.out; simp; omega
      go_wp2
      go_ret3
      exact ⟨rfl, rfl⟩
set_option maxHeartbeats 1000000 in
theorem quick_ms (s : ByteArray) (w : World) (B : Nat) (hB : B ≤ 10) (hB0 : 1 < B) (h0 : 0 < s.size) (h45 : ((s[0].toNat : Int) == 45) = true) (hd : digTo s 1 B) (M : Nat) (hM : M ≤ B + 10) (hs : s.size = M) (hsl : B < s.size) (h47 : ((s[B].toNat : Int) != 47) = false) (hd2 : digTo s (B + 1) M) :
    Calls Tryz.prog 59 #[.string s] w fun e w' => e = .returned (.tuple #[.int .i64 (-valTo s 1 B), .int .i64 (valTo s (B + 1) M), .bool true]) ∧ w' = w := by
  have HD := Lib.hid hd; clear hd
  have HS := Lib.hid hs
  have hs1 : s.size ≤ 30 := by omega
  have hs2 : B ≤ s.size := by omega
  have HD2 := Lib.hid hd2; clear hd2
  have H47 := Lib.hid h47; clear h47
  clear hs
  go_enter Tryz.func59, Tryz.ntmps59
  go_wp2
  go_loop [2, 3, 4, 5] (fun n d f i => ∃ k : Nat, 1 ≤ k ∧ k ≤ B ∧ i = .int .i64 k ∧ n = .int .i64 (valTo s 1 k) ∧ d = .int .i64 0 ∧ f = .bool false) (fun _ _ _ i => 100 - (intOf i).toNat)
  case atStart => exact ⟨1, by omega, by omega, rfl, by rw [valTo_zero], rfl, rfl⟩
  case round =>
    obtain ⟨k, hk0, hk, rfl, rfl, rfl, rfl⟩ := hrel
    have hb := valTo_lt s 1 B k HD.out hs2 hk0 hk (by omega)
    by_cases hlt : k < B
    · have hkl : k < s.size := by omega
      have hdk := HD.out k hkl hk0 hlt
      have HP := Lib.hid (valTo_succ s 1 k hkl hk0)
      have h47' : ((s[k].toNat : Int) != 47) = true := by simp; omega
      go_wp2
      go_round
      case rel => exact ⟨k + 1, by omega, by omega, by go_num, by rw [HP.out], rfl, rfl⟩
      case measure => simp [intOf]; omega
    · obtain rfl : k = B := by omega
      have h47 := H47.out
      have hne : (((k : Int)) == (s.size : Int)) = false := by have := HS.out; simp; omega
      go_wp2
      go_loop [2, 3, 4, 5] (fun m n f i => ∃ j : Nat, k + 1 ≤ j ∧ j ≤ M ∧ i = .int .i64 j ∧ n = .int .i64 (valTo s (k + 1) j) ∧ m = .int .i64 (-valTo s 1 k) ∧ f = .bool false) (fun _ _ _ i => 100 - (intOf i).toNat)
      case atStart => exact ⟨k + 1, by omega, by have := HS.out; omega, by go_num, by rw [valTo_zero], rfl, rfl⟩
      case round =>
        obtain ⟨j, hj0, hj, rfl, rfl, rfl, rfl⟩ := hrel
        have hb2 := valTo_lt s (k + 1) M j HD2.out (by have := HS.out; omega) hj0 hj (by omega)
        have hjs : j ≤ s.size := by have := HS.out; omega
        by_cases hlt2 : j < M
        · have hkl : j < s.size := by have := HS.out; omega
          have hdk := HD2.out j hkl hj0 hlt2
          have HP := Lib.hid (valTo_succ s (k + 1) j hkl hj0)
          have h9 : (((j : Int) - ((k : Int) + 1)) == 9) = false := by simp; omega
          go_wp2
          go_round
          case rel => exact ⟨j + 1, by omega, by omega, by go_num, by rw [HP.out], rfl, rfl⟩
          case measure => simp [intOf]; omega
        · obtain rfl : j = M := by omega
          have hge : ¬ j < s.size := by have := HS.out; omega
          go_wp2
          go_ret3
          exact ⟨rfl, rfl⟩

/-! ### the text of a number -/
theorem size_mk (l : List UInt8) : (⟨l.toArray⟩ : ByteArray).size = l.length := by simp [ByteArray.size]
theorem get_mk (l : List UInt8) (k : Nat) (h : k < (⟨l.toArray⟩ : ByteArray).size) (h' : k < l.length) : (⟨l.toArray⟩ : ByteArray)[k] = l[k] := rfl
theorem digTo_mk {p q r : List UInt8} (hq : ∀ c ∈ q, isDig c) : digTo ⟨(p ++ (q ++ r)).toArray⟩ p.length (p.length + q.length) := by
  intro k h h1 h2
  have hk : k < (p ++ (q ++ r)).length := by rw [size_mk] at h; exact h
  rw [get_mk _ k h hk, List.getElem_append_right h1, List.getElem_append_left (by omega)]
  exact hq _ (List.getElem_mem ..)
theorem valTo_mk (p q r : List UInt8) : valTo ⟨(p ++ (q ++ r)).toArray⟩ p.length (p.length + q.length) = dval q := by
  unfold valTo
  simp only [List.drop_left, Nat.add_sub_cancel_left, List.take_left]
theorem quick_rs (n d : Int) (w : World) (h1 : -1000000000 < n) (h2 : n < 1000000000) (h3 : 0 < d) (h4 : d < 1000000000) :
    Calls Tryz.prog 59 #[.string ⟨(rs n d).toArray⟩] w fun e w' => e = .returned (.tuple #[.int .i64 n, .int .i64 d, .bool true]) ∧ w' = w := by
  have p9 : (10 : Nat) ^ 9 = 1000000000 := by decide
  have l1 := dec_len (u := n.natAbs) (k := 9) (by omega) (by omega)
  have l2 := dec_len (u := d.natAbs) (k := 9) (by omega) (by omega)
  have q1 := dec_pos n.natAbs
  have q2 := dec_pos d.natAbs
  have v1 := dec_val n.natAbs
  have v2 := dec_val d.natAbs
  have hdp : ¬ d < 0 := by omega
  by_cases hn : n < 0
  · by_cases hd : d = 1
    · subst hd
      rw [rs_one, itoa_neg' hn]
      have e : (45 :: Lib.decDigits n.natAbs) = [45] ++ (Lib.decDigits n.natAbs ++ []) := by simp
      have hv := valTo_mk [45] (Lib.decDigits n.natAbs) []
      have hdg := digTo_mk (p := [45]) (r := []) (dec_dig n.natAbs)
      rw [← e] at hv hdg
      simp only [List.length_singleton] at hv hdg
      refine (quick_mn ⟨(45 :: Lib.decDigits n.natAbs).toArray⟩ w (1 + (Lib.decDigits n.natAbs).length) (by omega) (by omega) (by rw [size_mk]; simp) rfl hdg (by rw [size_mk]; simp; omega)).mono ?_
      rintro e w' ⟨rfl, rfl⟩
      refine ⟨?_, rfl⟩
      rw [hv, v1]
      congr 5
      omega
    · rw [rs_of hd, itoa_neg' hn, itoa_pos' hdp]
      have e : (45 :: Lib.decDigits n.natAbs ++ 47 :: Lib.decDigits d.natAbs) = [45] ++ (Lib.decDigits n.natAbs ++ 47 :: Lib.decDigits d.natAbs) := by simp
      have e' : (45 :: Lib.decDigits n.natAbs ++ 47 :: Lib.decDigits d.natAbs) = ([45] ++ Lib.decDigits n.natAbs ++ [47]) ++ (Lib.decDigits d.natAbs ++ []) := by simp
      have hv := valTo_mk [45] (Lib.decDigits n.natAbs) (47 :: Lib.decDigits d.natAbs)
      have hdg := digTo_mk (p := [45]) (r := 47 :: Lib.decDigits d.natAbs) (dec_dig n.natAbs)
      have hv2 := valTo_mk ([45] ++ Lib.decDigits n.natAbs ++ [47]) (Lib.decDigits d.natAbs) []
      have hdg2 := digTo_mk (p := [45] ++ Lib.decDigits n.natAbs ++ [47]) (r := []) (dec_dig d.natAbs)
      rw [← e] at hv hdg
      rw [← e'] at hv2 hdg2
      have el : ([45] ++ Lib.decDigits n.natAbs ++ [47]).length = 1 + (Lib.decDigits n.natAbs).length + 1 := by simp; omega
      rw [el] at hv2 hdg2
      simp only [List.length_singleton] at hv hdg
      have hs : (⟨(45 :: Lib.decDigits n.natAbs ++ 47 :: Lib.decDigits d.natAbs).toArray⟩ : ByteArray).size = 1 + (Lib.decDigits n.natAbs).length + 1 + (Lib.decDigits d.natAbs).length := by rw [size_mk]; simp; omega
      refine (quick_ms ⟨(45 :: Lib.decDigits n.natAbs ++ 47 :: Lib.decDigits d.natAbs).toArray⟩ w (1 + (Lib.decDigits n.natAbs).length) (by omega) (by omega) (by omega) rfl hdg (1 + (Lib.decDigits n.natAbs).length + 1 + (Lib.decDigits d.natAbs).length) (by omega) hs (by omega) ?_ hdg2).mono ?_
      · rw [get_mk _ _ (by omega) (by simp; omega), List.getElem_append_right (by simp; omega)]
        simp [Nat.add_comm]
      · rintro e w' ⟨rfl, rfl⟩
        refine ⟨?_, rfl⟩
        rw [hv, v1, hv2, v2]
        have a1 : -((n.natAbs : Nat) : Int) = n := by omega
        have a2 : ((d.natAbs : Nat) : Int) = d := by omega
        rw [a1, a2]
  · obtain ⟨c, r, hc, hcd⟩ : ∃ c r, Lib.decDigits n.natAbs = c :: r ∧ isDig c := by
      cases hl : Lib.decDigits n.natAbs with
      | nil => rw [hl] at q1; simp at q1
      | cons c r => exact ⟨c, r, rfl, dec_dig n.natAbs c (by rw [hl]; exact List.mem_cons_self ..)⟩
    unfold isDig at hcd
    have h45 : (((c.toNat : Nat) : Int) == 45) = false := by rw [beq_eq_false_iff_ne]; omega
    by_cases hd : d = 1
    · subst hd
      rw [rs_one, itoa_pos' hn]
      have e : Lib.decDigits n.natAbs = [] ++ (Lib.decDigits n.natAbs ++ []) := by simp
      have hv := valTo_mk [] (Lib.decDigits n.natAbs) []
      have hdg := digTo_mk (p := []) (r := []) (dec_dig n.natAbs)
      rw [← e] at hv hdg
      simp only [List.length_nil, Nat.zero_add] at hv hdg
      refine (quick_pn ⟨(Lib.decDigits n.natAbs).toArray⟩ w (Lib.decDigits n.natAbs).length (by omega) (by omega) (by rw [size_mk]; omega) ?_ hdg (by rw [size_mk])).mono ?_
      · rw [get_mk _ 0 (by rw [size_mk]; omega) q1]
        simp only [hc, List.getElem_cons_zero]
        exact h45
      · rintro e w' ⟨rfl, rfl⟩
        refine ⟨?_, rfl⟩
        rw [hv, v1]
        have a1 : ((n.natAbs : Nat) : Int) = n := by omega
        rw [a1]
    · rw [rs_of hd, itoa_pos' hn, itoa_pos' hdp]
      have e : (Lib.decDigits n.natAbs ++ 47 :: Lib.decDigits d.natAbs) = [] ++ (Lib.decDigits n.natAbs ++ 47 :: Lib.decDigits d.natAbs) := by simp
      have e' : (Lib.decDigits n.natAbs ++ 47 :: Lib.decDigits d.natAbs) = (Lib.decDigits n.natAbs ++ [47]) ++ (Lib.decDigits d.natAbs ++ []) := by simp
      have hv := valTo_mk [] (Lib.decDigits n.natAbs) (47 :: Lib.decDigits d.natAbs)
      have hdg := digTo_mk (p := []) (r := 47 :: Lib.decDigits d.natAbs) (dec_dig n.natAbs)
      have hv2 := valTo_mk (Lib.decDigits n.natAbs ++ [47]) (Lib.decDigits d.natAbs) []
      have hdg2 := digTo_mk (p := Lib.decDigits n.natAbs ++ [47]) (r := []) (dec_dig d.natAbs)
      rw [← e] at hv hdg
      rw [← e'] at hv2 hdg2
      have el : (Lib.decDigits n.natAbs ++ [47]).length = (Lib.decDigits n.natAbs).length + 1 := by simp
      rw [el] at hv2 hdg2
      simp only [List.length_nil, Nat.zero_add] at hv hdg
      have hs : (⟨(Lib.decDigits n.natAbs ++ 47 :: Lib.decDigits d.natAbs).toArray⟩ : ByteArray).size = (Lib.decDigits n.natAbs).length + 1 + (Lib.decDigits d.natAbs).length := by rw [size_mk]; simp; omega
      refine (quick_ps ⟨(Lib.decDigits n.natAbs ++ 47 :: Lib.decDigits d.natAbs).toArray⟩ w (Lib.decDigits n.natAbs).length (by omega) (by omega) (by omega) ?_ hdg ((Lib.decDigits n.natAbs).length + 1 + (Lib.decDigits d.natAbs).length) (by omega) hs (by omega) ?_ hdg2).mono ?_
      · rw [get_mk _ 0 (by omega) (by simp; omega), List.getElem_append_left (by omega)]
        simp only [hc, List.getElem_cons_zero]
        exact h45
      · rw [get_mk _ _ (by omega) (by simp), List.getElem_append_right (by omega)]
        simp
      · rintro e w' ⟨rfl, rfl⟩
        refine ⟨?_, rfl⟩
        rw [hv, v1, hv2, v2]
        have a1 : ((n.natAbs : Nat) : Int) = n := by omega
        have a2 : ((d.natAbs : Nat) : Int) = d := by omega
        rw [a1, a2]
end Go.Proofs.YtobknfkobcbnoaaGreatDoor
