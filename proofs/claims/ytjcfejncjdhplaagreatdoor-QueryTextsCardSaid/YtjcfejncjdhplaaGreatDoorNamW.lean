/-
  klippelaw53.isName, klippe/relation.IsName: which texts are names (any text).
-/
import Derived.Test.YtjcfejncjdhplaaGreatDoorBigP
import Derived.Test.YtjcfejncjdhplaaGreatDoorBigP2
import Derived.Lib.ConvBytes
set_option linter.unusedSectionVars false
set_option linter.unusedVariables false
set_option linter.unusedSimpArgs false
namespace Klp
open Go Go.Lib
def letB (c : UInt8) : Bool := (decide (97 ≤ c.toNat) && decide (c.toNat ≤ 122)) || (decide (65 ≤ c.toNat) && decide (c.toNat ≤ 90))
def wrdB (c : UInt8) : Bool := digB c || c == 95
def okAt (i : Nat) (c : UInt8) : Bool := letB c || (i != 0 && wrdB c)
def nmAll (s : List UInt8) : Bool := (List.range s.length).all fun i => okAt i (s.getD i 0)
def nmB (s : List UInt8) : Bool := !s.isEmpty && decide (s.length ≤ 32) && nmAll s
theorem nmAll_no {s : List UInt8} {k : Nat} (h : k < s.length) (hb : okAt k s[k] = false) : nmAll s = false := by
  unfold nmAll
  rw [List.all_eq_false]
  refine ⟨k, List.mem_range.2 h, ?_⟩
  rw [List.getD_eq_getElem?_getD, List.getElem?_eq_getElem h]
  simpa using hb
theorem nmAll_yes {s : List UInt8} (h : ∀ j (hj : j < s.length), okAt j s[j] = true) : nmAll s = true := by
  unfold nmAll
  rw [List.all_eq_true]
  intro j hj
  have hj' := List.mem_range.1 hj
  rw [List.getD_eq_getElem?_getD, List.getElem?_eq_getElem hj']
  exact h j hj'
theorem byte_kinds (c : UInt8) : (97 ≤ c.toNat ∧ c.toNat ≤ 122) ∨ 122 < c.toNat ∨ (65 ≤ c.toNat ∧ c.toNat ≤ 90) ∨ c.toNat = 95 ∨ (90 < c.toNat ∧ c.toNat < 95) ∨ c.toNat = 96 ∨ (57 < c.toNat ∧ c.toNat < 65) ∨ (48 ≤ c.toNat ∧ c.toNat ≤ 57) ∨ c.toNat < 48 := by omega
theorem letB_true {c : UInt8} (h : (97 ≤ c.toNat ∧ c.toNat ≤ 122) ∨ (65 ≤ c.toNat ∧ c.toNat ≤ 90)) (i : Nat) : okAt i c = true := by
  unfold okAt letB
  rcases h with ⟨h1, h2⟩ | ⟨h1, h2⟩
  · rw [decide_eq_true h1, decide_eq_true h2]; simp
  · rw [decide_eq_true h1, decide_eq_true h2]; simp
theorem wrd_true {c : UInt8} (h : c.toNat = 95 ∨ (48 ≤ c.toNat ∧ c.toNat ≤ 57)) {i : Nat} (hi : i ≠ 0) : okAt i c = true := by
  have h1 : (i != 0) = true := by simpa using hi
  unfold okAt wrdB
  rw [h1]
  rcases h with h | h
  · have : c = 95 := by rw [← UInt8.toNat_inj]; exact h
    rw [this]; simp
  · rw [(digB_iff c).2 h]; simp
theorem ok_false {c : UInt8} (h : ¬ ((97 ≤ c.toNat ∧ c.toNat ≤ 122) ∨ (65 ≤ c.toNat ∧ c.toNat ≤ 90))) {i : Nat} (h2 : i = 0 ∨ ¬ (c.toNat = 95 ∨ (48 ≤ c.toNat ∧ c.toNat ≤ 57))) : okAt i c = false := by
  have hl : letB c = false := by
    unfold letB
    rw [Bool.or_eq_false_iff]
    constructor
    · by_cases h1 : 97 ≤ c.toNat
      · rw [decide_eq_false (show ¬ c.toNat ≤ 122 by omega)]; simp
      · rw [decide_eq_false h1]; simp
    · by_cases h1 : 65 ≤ c.toNat
      · rw [decide_eq_false (show ¬ c.toNat ≤ 90 by omega)]; simp
      · rw [decide_eq_false h1]; simp
  unfold okAt
  rw [hl]
  rcases h2 with h2 | h2
  · subst h2; rfl
  · have hd : digB c = false := by
      cases h3 : digB c
      · rfl
      · exact absurd (.inr ((digB_iff c).1 h3)) h2
    have h9 : (c == 95) = false := by
      rw [beq_eq_false_iff_ne]
      rintro rfl
      exact h2 (.inl rfl)
    unfold wrdB
    rw [hd, h9]
    simp
end Klp
namespace Go.Proofs.YtjcfejncjdhplaaGreatDoor
open Go.RowKit Go Klp
set_option maxHeartbeats 4000000 in
theorem isName_core (t : List UInt8) (hl : t.length ≤ 1000) (res : Bool) (hres : res = nmB t) (w : World) :
    Calls Tryz.prog 24 #[.string ⟨t.toArray⟩] w fun e w' => e = .returned (.bool res) ∧ Kp w w' := by
  have HRES := Lib.hid hres
  clear hres
  go_enter Tryz.func24, Tryz.ntmps24
  go_wp2_with fail
  go_loop [2, 3] (fun r i => ∃ k : Nat, k ≤ t.length ∧ i = .int .i64 k ∧ r = .bool false ∧ ∀ j (h : j < t.length), j < k → okAt j t[j] = true) (fun _ i => 1001 - (intOf i).toNat)
  case atStart => exact ⟨0, Nat.zero_le _, rfl, rfl, fun j h h' => by omega⟩
  case round =>
    obtain ⟨k, hk, rfl, rfl, hall⟩ := hrel
    have HALL := Lib.hid hall; clear hall
    by_cases hlt : k < t.length
    · have hks : k < (⟨t.toArray⟩ : ByteArray).size := by rw [size_mk]; exact hlt
      have hg : (⟨t.toArray⟩ : ByteArray)[k] = t[k] := get_mk t k hks hlt
      have hyes : okAt k t[k] = true → ∀ j (h : j < t.length), j < k + 1 → okAt j t[j] = true := fun hok j h h' => by
        rcases Nat.lt_or_ge j k with h1 | h1
        · exact HALL.out j h h1
        · obtain rfl : j = k := by omega
          exact hok
      have hno : okAt k t[k] = false → false = res := fun h => by
        rw [HRES.out]
        unfold nmB
        rw [nmAll_no hlt h]
        simp
      have HYES := Lib.hid hyes
      have HNO := Lib.hid hno
      rw [← hg] at HYES HNO
      clear hyes hno hg
      rcases byte_kinds (⟨t.toArray⟩ : ByteArray)[k] with h | h | h | h | h | h | h | h | h
      · have HH := Lib.hid (HYES.out (letB_true (by omega) k))
        have d0 : decide ((97 : Int) ≤ ((((⟨t.toArray⟩ : ByteArray)[k]).toNat : Nat) : Int)) = true := by first | exact decide_eq_true (by omega) | simp
        have d1 : decide (((((⟨t.toArray⟩ : ByteArray)[k]).toNat : Nat) : Int) ≤ 122) = true := by first | exact decide_eq_true (by omega) | simp
        have d2 : decide ((65 : Int) ≤ ((((⟨t.toArray⟩ : ByteArray)[k]).toNat : Nat) : Int)) = true := by first | exact decide_eq_true (by omega) | simp
        have d3 : decide (((((⟨t.toArray⟩ : ByteArray)[k]).toNat : Nat) : Int) ≤ 90) = false := by first | exact decide_eq_false (by omega) | simp
        have d4 : decide ((48 : Int) ≤ ((((⟨t.toArray⟩ : ByteArray)[k]).toNat : Nat) : Int)) = true := by first | exact decide_eq_true (by omega) | simp
        have d5 : decide (((((⟨t.toArray⟩ : ByteArray)[k]).toNat : Nat) : Int) ≤ 57) = false := by first | exact decide_eq_false (by omega) | simp
        have d6 : decide (((((⟨t.toArray⟩ : ByteArray)[k]).toNat : Nat) : Int) < 48) = false := by first | exact decide_eq_false (by omega) | simp
        have d7 : decide ((57 : Int) < ((((⟨t.toArray⟩ : ByteArray)[k]).toNat : Nat) : Int)) = true := by first | exact decide_eq_true (by omega) | simp
        have d8 : decide ((122 : Int) < ((((⟨t.toArray⟩ : ByteArray)[k]).toNat : Nat) : Int)) = false := by first | exact decide_eq_false (by omega) | simp
        have d9 : decide ((90 : Int) < ((((⟨t.toArray⟩ : ByteArray)[k]).toNat : Nat) : Int)) = true := by first | exact decide_eq_true (by omega) | simp
        have d90 : ((((((⟨t.toArray⟩ : ByteArray)[k]).toNat : Nat) : Int)) == 95) = false := by rw [beq_eq_false_iff_ne]; omega
        have d91 : ((((((⟨t.toArray⟩ : ByteArray)[k]).toNat : Nat) : Int)) != 95) = true := by rw [bne, d90]; rfl
        clear h
        go_wp2_with fail
        go_round
        case rel => exact ⟨k + 1, by omega, by go_num, rfl, HH.out⟩
        case measure => simp [intOf]; omega
      · by_cases hk0 : k = 0
        · have HH := Lib.hid (HNO.out (ok_false (by omega) (.inl hk0)))
          have hkz : ((k : Int) == 0) = true := by rw [hk0]; rfl
          have d0 : decide ((97 : Int) ≤ ((((⟨t.toArray⟩ : ByteArray)[k]).toNat : Nat) : Int)) = true := by first | exact decide_eq_true (by omega) | simp
          have d1 : decide (((((⟨t.toArray⟩ : ByteArray)[k]).toNat : Nat) : Int) ≤ 122) = false := by first | exact decide_eq_false (by omega) | simp
          have d2 : decide ((65 : Int) ≤ ((((⟨t.toArray⟩ : ByteArray)[k]).toNat : Nat) : Int)) = true := by first | exact decide_eq_true (by omega) | simp
          have d3 : decide (((((⟨t.toArray⟩ : ByteArray)[k]).toNat : Nat) : Int) ≤ 90) = false := by first | exact decide_eq_false (by omega) | simp
          have d4 : decide ((48 : Int) ≤ ((((⟨t.toArray⟩ : ByteArray)[k]).toNat : Nat) : Int)) = true := by first | exact decide_eq_true (by omega) | simp
          have d5 : decide (((((⟨t.toArray⟩ : ByteArray)[k]).toNat : Nat) : Int) ≤ 57) = false := by first | exact decide_eq_false (by omega) | simp
          have d6 : decide (((((⟨t.toArray⟩ : ByteArray)[k]).toNat : Nat) : Int) < 48) = false := by first | exact decide_eq_false (by omega) | simp
          have d7 : decide ((57 : Int) < ((((⟨t.toArray⟩ : ByteArray)[k]).toNat : Nat) : Int)) = true := by first | exact decide_eq_true (by omega) | simp
          have d8 : decide ((122 : Int) < ((((⟨t.toArray⟩ : ByteArray)[k]).toNat : Nat) : Int)) = true := by first | exact decide_eq_true (by omega) | simp
          have d9 : decide ((90 : Int) < ((((⟨t.toArray⟩ : ByteArray)[k]).toNat : Nat) : Int)) = true := by first | exact decide_eq_true (by omega) | simp
          have d90 : ((((((⟨t.toArray⟩ : ByteArray)[k]).toNat : Nat) : Int)) == 95) = false := by rw [beq_eq_false_iff_ne]; omega
          have d91 : ((((((⟨t.toArray⟩ : ByteArray)[k]).toNat : Nat) : Int)) != 95) = true := by rw [bne, d90]; rfl
          clear h hk0
          go_wp2_with fail
          go_ret
          exact ⟨by rw [← HH.out]; rfl, Kp.refl _⟩
        · have HH := Lib.hid (HNO.out (ok_false (by omega) (.inr (by omega))))
          have hkz : ((k : Int) == 0) = false := by rw [beq_eq_false_iff_ne]; omega
          have d0 : decide ((97 : Int) ≤ ((((⟨t.toArray⟩ : ByteArray)[k]).toNat : Nat) : Int)) = true := by first | exact decide_eq_true (by omega) | simp
          have d1 : decide (((((⟨t.toArray⟩ : ByteArray)[k]).toNat : Nat) : Int) ≤ 122) = false := by first | exact decide_eq_false (by omega) | simp
          have d2 : decide ((65 : Int) ≤ ((((⟨t.toArray⟩ : ByteArray)[k]).toNat : Nat) : Int)) = true := by first | exact decide_eq_true (by omega) | simp
          have d3 : decide (((((⟨t.toArray⟩ : ByteArray)[k]).toNat : Nat) : Int) ≤ 90) = false := by first | exact decide_eq_false (by omega) | simp
          have d4 : decide ((48 : Int) ≤ ((((⟨t.toArray⟩ : ByteArray)[k]).toNat : Nat) : Int)) = true := by first | exact decide_eq_true (by omega) | simp
          have d5 : decide (((((⟨t.toArray⟩ : ByteArray)[k]).toNat : Nat) : Int) ≤ 57) = false := by first | exact decide_eq_false (by omega) | simp
          have d6 : decide (((((⟨t.toArray⟩ : ByteArray)[k]).toNat : Nat) : Int) < 48) = false := by first | exact decide_eq_false (by omega) | simp
          have d7 : decide ((57 : Int) < ((((⟨t.toArray⟩ : ByteArray)[k]).toNat : Nat) : Int)) = true := by first | exact decide_eq_true (by omega) | simp
          have d8 : decide ((122 : Int) < ((((⟨t.toArray⟩ : ByteArray)[k]).toNat : Nat) : Int)) = true := by first | exact decide_eq_true (by omega) | simp
          have d9 : decide ((90 : Int) < ((((⟨t.toArray⟩ : ByteArray)[k]).toNat : Nat) : Int)) = true := by first | exact decide_eq_true (by omega) | simp
          have d90 : ((((((⟨t.toArray⟩ : ByteArray)[k]).toNat : Nat) : Int)) == 95) = false := by rw [beq_eq_false_iff_ne]; omega
          have d91 : ((((((⟨t.toArray⟩ : ByteArray)[k]).toNat : Nat) : Int)) != 95) = true := by rw [bne, d90]; rfl
          clear h hk0
          go_wp2_with fail
          go_ret
          exact ⟨by rw [← HH.out]; rfl, Kp.refl _⟩
      · have HH := Lib.hid (HYES.out (letB_true (by omega) k))
        have d0 : decide ((97 : Int) ≤ ((((⟨t.toArray⟩ : ByteArray)[k]).toNat : Nat) : Int)) = false := by first | exact decide_eq_false (by omega) | simp
        have d1 : decide (((((⟨t.toArray⟩ : ByteArray)[k]).toNat : Nat) : Int) ≤ 122) = true := by first | exact decide_eq_true (by omega) | simp
        have d2 : decide ((65 : Int) ≤ ((((⟨t.toArray⟩ : ByteArray)[k]).toNat : Nat) : Int)) = true := by first | exact decide_eq_true (by omega) | simp
        have d3 : decide (((((⟨t.toArray⟩ : ByteArray)[k]).toNat : Nat) : Int) ≤ 90) = true := by first | exact decide_eq_true (by omega) | simp
        have d4 : decide ((48 : Int) ≤ ((((⟨t.toArray⟩ : ByteArray)[k]).toNat : Nat) : Int)) = true := by first | exact decide_eq_true (by omega) | simp
        have d5 : decide (((((⟨t.toArray⟩ : ByteArray)[k]).toNat : Nat) : Int) ≤ 57) = false := by first | exact decide_eq_false (by omega) | simp
        have d6 : decide (((((⟨t.toArray⟩ : ByteArray)[k]).toNat : Nat) : Int) < 48) = false := by first | exact decide_eq_false (by omega) | simp
        have d7 : decide ((57 : Int) < ((((⟨t.toArray⟩ : ByteArray)[k]).toNat : Nat) : Int)) = true := by first | exact decide_eq_true (by omega) | simp
        have d8 : decide ((122 : Int) < ((((⟨t.toArray⟩ : ByteArray)[k]).toNat : Nat) : Int)) = false := by first | exact decide_eq_false (by omega) | simp
        have d9 : decide ((90 : Int) < ((((⟨t.toArray⟩ : ByteArray)[k]).toNat : Nat) : Int)) = false := by first | exact decide_eq_false (by omega) | simp
        have d90 : ((((((⟨t.toArray⟩ : ByteArray)[k]).toNat : Nat) : Int)) == 95) = false := by rw [beq_eq_false_iff_ne]; omega
        have d91 : ((((((⟨t.toArray⟩ : ByteArray)[k]).toNat : Nat) : Int)) != 95) = true := by rw [bne, d90]; rfl
        clear h
        go_wp2_with fail
        go_round
        case rel => exact ⟨k + 1, by omega, by go_num, rfl, HH.out⟩
        case measure => simp [intOf]; omega
      · by_cases hk0 : k = 0
        · have HH := Lib.hid (HNO.out (ok_false (by omega) (.inl hk0)))
          have hkz : ((k : Int) == 0) = true := by rw [hk0]; rfl
          have d0 : decide ((97 : Int) ≤ ((((⟨t.toArray⟩ : ByteArray)[k]).toNat : Nat) : Int)) = false := by first | exact decide_eq_false (by omega) | simp
          have d1 : decide (((((⟨t.toArray⟩ : ByteArray)[k]).toNat : Nat) : Int) ≤ 122) = true := by first | exact decide_eq_true (by omega) | simp
          have d2 : decide ((65 : Int) ≤ ((((⟨t.toArray⟩ : ByteArray)[k]).toNat : Nat) : Int)) = true := by first | exact decide_eq_true (by omega) | simp
          have d3 : decide (((((⟨t.toArray⟩ : ByteArray)[k]).toNat : Nat) : Int) ≤ 90) = false := by first | exact decide_eq_false (by omega) | simp
          have d4 : decide ((48 : Int) ≤ ((((⟨t.toArray⟩ : ByteArray)[k]).toNat : Nat) : Int)) = true := by first | exact decide_eq_true (by omega) | simp
          have d5 : decide (((((⟨t.toArray⟩ : ByteArray)[k]).toNat : Nat) : Int) ≤ 57) = false := by first | exact decide_eq_false (by omega) | simp
          have d6 : decide (((((⟨t.toArray⟩ : ByteArray)[k]).toNat : Nat) : Int) < 48) = false := by first | exact decide_eq_false (by omega) | simp
          have d7 : decide ((57 : Int) < ((((⟨t.toArray⟩ : ByteArray)[k]).toNat : Nat) : Int)) = true := by first | exact decide_eq_true (by omega) | simp
          have d8 : decide ((122 : Int) < ((((⟨t.toArray⟩ : ByteArray)[k]).toNat : Nat) : Int)) = false := by first | exact decide_eq_false (by omega) | simp
          have d9 : decide ((90 : Int) < ((((⟨t.toArray⟩ : ByteArray)[k]).toNat : Nat) : Int)) = true := by first | exact decide_eq_true (by omega) | simp
          have d90 : ((((((⟨t.toArray⟩ : ByteArray)[k]).toNat : Nat) : Int)) == 95) = true := by rw [beq_iff_eq]; omega
          have d91 : ((((((⟨t.toArray⟩ : ByteArray)[k]).toNat : Nat) : Int)) != 95) = false := by rw [bne, d90]; rfl
          clear h hk0
          go_wp2_with fail
          go_ret
          exact ⟨by rw [← HH.out]; rfl, Kp.refl _⟩
        · have HH := Lib.hid (HYES.out (wrd_true (by omega) hk0))
          have hkz : ((k : Int) == 0) = false := by rw [beq_eq_false_iff_ne]; omega
          have d0 : decide ((97 : Int) ≤ ((((⟨t.toArray⟩ : ByteArray)[k]).toNat : Nat) : Int)) = false := by first | exact decide_eq_false (by omega) | simp
          have d1 : decide (((((⟨t.toArray⟩ : ByteArray)[k]).toNat : Nat) : Int) ≤ 122) = true := by first | exact decide_eq_true (by omega) | simp
          have d2 : decide ((65 : Int) ≤ ((((⟨t.toArray⟩ : ByteArray)[k]).toNat : Nat) : Int)) = true := by first | exact decide_eq_true (by omega) | simp
          have d3 : decide (((((⟨t.toArray⟩ : ByteArray)[k]).toNat : Nat) : Int) ≤ 90) = false := by first | exact decide_eq_false (by omega) | simp
          have d4 : decide ((48 : Int) ≤ ((((⟨t.toArray⟩ : ByteArray)[k]).toNat : Nat) : Int)) = true := by first | exact decide_eq_true (by omega) | simp
          have d5 : decide (((((⟨t.toArray⟩ : ByteArray)[k]).toNat : Nat) : Int) ≤ 57) = false := by first | exact decide_eq_false (by omega) | simp
          have d6 : decide (((((⟨t.toArray⟩ : ByteArray)[k]).toNat : Nat) : Int) < 48) = false := by first | exact decide_eq_false (by omega) | simp
          have d7 : decide ((57 : Int) < ((((⟨t.toArray⟩ : ByteArray)[k]).toNat : Nat) : Int)) = true := by first | exact decide_eq_true (by omega) | simp
          have d8 : decide ((122 : Int) < ((((⟨t.toArray⟩ : ByteArray)[k]).toNat : Nat) : Int)) = false := by first | exact decide_eq_false (by omega) | simp
          have d9 : decide ((90 : Int) < ((((⟨t.toArray⟩ : ByteArray)[k]).toNat : Nat) : Int)) = true := by first | exact decide_eq_true (by omega) | simp
          have d90 : ((((((⟨t.toArray⟩ : ByteArray)[k]).toNat : Nat) : Int)) == 95) = true := by rw [beq_iff_eq]; omega
          have d91 : ((((((⟨t.toArray⟩ : ByteArray)[k]).toNat : Nat) : Int)) != 95) = false := by rw [bne, d90]; rfl
          clear h hk0
          go_wp2_with fail
          go_round
          case rel => exact ⟨k + 1, by omega, by go_num, rfl, HH.out⟩
          case measure => simp [intOf]; omega
      · by_cases hk0 : k = 0
        · have HH := Lib.hid (HNO.out (ok_false (by omega) (.inl hk0)))
          have hkz : ((k : Int) == 0) = true := by rw [hk0]; rfl
          have d0 : decide ((97 : Int) ≤ ((((⟨t.toArray⟩ : ByteArray)[k]).toNat : Nat) : Int)) = false := by first | exact decide_eq_false (by omega) | simp
          have d1 : decide (((((⟨t.toArray⟩ : ByteArray)[k]).toNat : Nat) : Int) ≤ 122) = true := by first | exact decide_eq_true (by omega) | simp
          have d2 : decide ((65 : Int) ≤ ((((⟨t.toArray⟩ : ByteArray)[k]).toNat : Nat) : Int)) = true := by first | exact decide_eq_true (by omega) | simp
          have d3 : decide (((((⟨t.toArray⟩ : ByteArray)[k]).toNat : Nat) : Int) ≤ 90) = false := by first | exact decide_eq_false (by omega) | simp
          have d4 : decide ((48 : Int) ≤ ((((⟨t.toArray⟩ : ByteArray)[k]).toNat : Nat) : Int)) = true := by first | exact decide_eq_true (by omega) | simp
          have d5 : decide (((((⟨t.toArray⟩ : ByteArray)[k]).toNat : Nat) : Int) ≤ 57) = false := by first | exact decide_eq_false (by omega) | simp
          have d6 : decide (((((⟨t.toArray⟩ : ByteArray)[k]).toNat : Nat) : Int) < 48) = false := by first | exact decide_eq_false (by omega) | simp
          have d7 : decide ((57 : Int) < ((((⟨t.toArray⟩ : ByteArray)[k]).toNat : Nat) : Int)) = true := by first | exact decide_eq_true (by omega) | simp
          have d8 : decide ((122 : Int) < ((((⟨t.toArray⟩ : ByteArray)[k]).toNat : Nat) : Int)) = false := by first | exact decide_eq_false (by omega) | simp
          have d9 : decide ((90 : Int) < ((((⟨t.toArray⟩ : ByteArray)[k]).toNat : Nat) : Int)) = true := by first | exact decide_eq_true (by omega) | simp
          have d90 : ((((((⟨t.toArray⟩ : ByteArray)[k]).toNat : Nat) : Int)) == 95) = false := by rw [beq_eq_false_iff_ne]; omega
          have d91 : ((((((⟨t.toArray⟩ : ByteArray)[k]).toNat : Nat) : Int)) != 95) = true := by rw [bne, d90]; rfl
          clear h hk0
          go_wp2_with fail
          go_ret
          exact ⟨by rw [← HH.out]; rfl, Kp.refl _⟩
        · have HH := Lib.hid (HNO.out (ok_false (by omega) (.inr (by omega))))
          have hkz : ((k : Int) == 0) = false := by rw [beq_eq_false_iff_ne]; omega
          have d0 : decide ((97 : Int) ≤ ((((⟨t.toArray⟩ : ByteArray)[k]).toNat : Nat) : Int)) = false := by first | exact decide_eq_false (by omega) | simp
          have d1 : decide (((((⟨t.toArray⟩ : ByteArray)[k]).toNat : Nat) : Int) ≤ 122) = true := by first | exact decide_eq_true (by omega) | simp
          have d2 : decide ((65 : Int) ≤ ((((⟨t.toArray⟩ : ByteArray)[k]).toNat : Nat) : Int)) = true := by first | exact decide_eq_true (by omega) | simp
          have d3 : decide (((((⟨t.toArray⟩ : ByteArray)[k]).toNat : Nat) : Int) ≤ 90) = false := by first | exact decide_eq_false (by omega) | simp
          have d4 : decide ((48 : Int) ≤ ((((⟨t.toArray⟩ : ByteArray)[k]).toNat : Nat) : Int)) = true := by first | exact decide_eq_true (by omega) | simp
          have d5 : decide (((((⟨t.toArray⟩ : ByteArray)[k]).toNat : Nat) : Int) ≤ 57) = false := by first | exact decide_eq_false (by omega) | simp
          have d6 : decide (((((⟨t.toArray⟩ : ByteArray)[k]).toNat : Nat) : Int) < 48) = false := by first | exact decide_eq_false (by omega) | simp
          have d7 : decide ((57 : Int) < ((((⟨t.toArray⟩ : ByteArray)[k]).toNat : Nat) : Int)) = true := by first | exact decide_eq_true (by omega) | simp
          have d8 : decide ((122 : Int) < ((((⟨t.toArray⟩ : ByteArray)[k]).toNat : Nat) : Int)) = false := by first | exact decide_eq_false (by omega) | simp
          have d9 : decide ((90 : Int) < ((((⟨t.toArray⟩ : ByteArray)[k]).toNat : Nat) : Int)) = true := by first | exact decide_eq_true (by omega) | simp
          have d90 : ((((((⟨t.toArray⟩ : ByteArray)[k]).toNat : Nat) : Int)) == 95) = false := by rw [beq_eq_false_iff_ne]; omega
          have d91 : ((((((⟨t.toArray⟩ : ByteArray)[k]).toNat : Nat) : Int)) != 95) = true := by rw [bne, d90]; rfl
          clear h hk0
          go_wp2_with fail
          go_ret
          exact ⟨by rw [← HH.out]; rfl, Kp.refl _⟩
      · by_cases hk0 : k = 0
        · have HH := Lib.hid (HNO.out (ok_false (by omega) (.inl hk0)))
          have hkz : ((k : Int) == 0) = true := by rw [hk0]; rfl
          have d0 : decide ((97 : Int) ≤ ((((⟨t.toArray⟩ : ByteArray)[k]).toNat : Nat) : Int)) = false := by first | exact decide_eq_false (by omega) | simp
          have d1 : decide (((((⟨t.toArray⟩ : ByteArray)[k]).toNat : Nat) : Int) ≤ 122) = true := by first | exact decide_eq_true (by omega) | simp
          have d2 : decide ((65 : Int) ≤ ((((⟨t.toArray⟩ : ByteArray)[k]).toNat : Nat) : Int)) = true := by first | exact decide_eq_true (by omega) | simp
          have d3 : decide (((((⟨t.toArray⟩ : ByteArray)[k]).toNat : Nat) : Int) ≤ 90) = false := by first | exact decide_eq_false (by omega) | simp
          have d4 : decide ((48 : Int) ≤ ((((⟨t.toArray⟩ : ByteArray)[k]).toNat : Nat) : Int)) = true := by first | exact decide_eq_true (by omega) | simp
          have d5 : decide (((((⟨t.toArray⟩ : ByteArray)[k]).toNat : Nat) : Int) ≤ 57) = false := by first | exact decide_eq_false (by omega) | simp
          have d6 : decide (((((⟨t.toArray⟩ : ByteArray)[k]).toNat : Nat) : Int) < 48) = false := by first | exact decide_eq_false (by omega) | simp
          have d7 : decide ((57 : Int) < ((((⟨t.toArray⟩ : ByteArray)[k]).toNat : Nat) : Int)) = true := by first | exact decide_eq_true (by omega) | simp
          have d8 : decide ((122 : Int) < ((((⟨t.toArray⟩ : ByteArray)[k]).toNat : Nat) : Int)) = false := by first | exact decide_eq_false (by omega) | simp
          have d9 : decide ((90 : Int) < ((((⟨t.toArray⟩ : ByteArray)[k]).toNat : Nat) : Int)) = true := by first | exact decide_eq_true (by omega) | simp
          have d90 : ((((((⟨t.toArray⟩ : ByteArray)[k]).toNat : Nat) : Int)) == 95) = false := by rw [beq_eq_false_iff_ne]; omega
          have d91 : ((((((⟨t.toArray⟩ : ByteArray)[k]).toNat : Nat) : Int)) != 95) = true := by rw [bne, d90]; rfl
          clear h hk0
          go_wp2_with fail
          go_ret
          exact ⟨by rw [← HH.out]; rfl, Kp.refl _⟩
        · have HH := Lib.hid (HNO.out (ok_false (by omega) (.inr (by omega))))
          have hkz : ((k : Int) == 0) = false := by rw [beq_eq_false_iff_ne]; omega
          have d0 : decide ((97 : Int) ≤ ((((⟨t.toArray⟩ : ByteArray)[k]).toNat : Nat) : Int)) = false := by first | exact decide_eq_false (by omega) | simp
          have d1 : decide (((((⟨t.toArray⟩ : ByteArray)[k]).toNat : Nat) : Int) ≤ 122) = true := by first | exact decide_eq_true (by omega) | simp
          have d2 : decide ((65 : Int) ≤ ((((⟨t.toArray⟩ : ByteArray)[k]).toNat : Nat) : Int)) = true := by first | exact decide_eq_true (by omega) | simp
          have d3 : decide (((((⟨t.toArray⟩ : ByteArray)[k]).toNat : Nat) : Int) ≤ 90) = false := by first | exact decide_eq_false (by omega) | simp
          have d4 : decide ((48 : Int) ≤ ((((⟨t.toArray⟩ : ByteArray)[k]).toNat : Nat) : Int)) = true := by first | exact decide_eq_true (by omega) | simp
          have d5 : decide (((((⟨t.toArray⟩ : ByteArray)[k]).toNat : Nat) : Int) ≤ 57) = false := by first | exact decide_eq_false (by omega) | simp
          have d6 : decide (((((⟨t.toArray⟩ : ByteArray)[k]).toNat : Nat) : Int) < 48) = false := by first | exact decide_eq_false (by omega) | simp
          have d7 : decide ((57 : Int) < ((((⟨t.toArray⟩ : ByteArray)[k]).toNat : Nat) : Int)) = true := by first | exact decide_eq_true (by omega) | simp
          have d8 : decide ((122 : Int) < ((((⟨t.toArray⟩ : ByteArray)[k]).toNat : Nat) : Int)) = false := by first | exact decide_eq_false (by omega) | simp
          have d9 : decide ((90 : Int) < ((((⟨t.toArray⟩ : ByteArray)[k]).toNat : Nat) : Int)) = true := by first | exact decide_eq_true (by omega) | simp
          have d90 : ((((((⟨t.toArray⟩ : ByteArray)[k]).toNat : Nat) : Int)) == 95) = false := by rw [beq_eq_false_iff_ne]; omega
          have d91 : ((((((⟨t.toArray⟩ : ByteArray)[k]).toNat : Nat) : Int)) != 95) = true := by rw [bne, d90]; rfl
          clear h hk0
          go_wp2_with fail
          go_ret
          exact ⟨by rw [← HH.out]; rfl, Kp.refl _⟩
      · by_cases hk0 : k = 0
        · have HH := Lib.hid (HNO.out (ok_false (by omega) (.inl hk0)))
          have hkz : ((k : Int) == 0) = true := by rw [hk0]; rfl
          have d0 : decide ((97 : Int) ≤ ((((⟨t.toArray⟩ : ByteArray)[k]).toNat : Nat) : Int)) = false := by first | exact decide_eq_false (by omega) | simp
          have d1 : decide (((((⟨t.toArray⟩ : ByteArray)[k]).toNat : Nat) : Int) ≤ 122) = true := by first | exact decide_eq_true (by omega) | simp
          have d2 : decide ((65 : Int) ≤ ((((⟨t.toArray⟩ : ByteArray)[k]).toNat : Nat) : Int)) = false := by first | exact decide_eq_false (by omega) | simp
          have d3 : decide (((((⟨t.toArray⟩ : ByteArray)[k]).toNat : Nat) : Int) ≤ 90) = true := by first | exact decide_eq_true (by omega) | simp
          have d4 : decide ((48 : Int) ≤ ((((⟨t.toArray⟩ : ByteArray)[k]).toNat : Nat) : Int)) = true := by first | exact decide_eq_true (by omega) | simp
          have d5 : decide (((((⟨t.toArray⟩ : ByteArray)[k]).toNat : Nat) : Int) ≤ 57) = false := by first | exact decide_eq_false (by omega) | simp
          have d6 : decide (((((⟨t.toArray⟩ : ByteArray)[k]).toNat : Nat) : Int) < 48) = false := by first | exact decide_eq_false (by omega) | simp
          have d7 : decide ((57 : Int) < ((((⟨t.toArray⟩ : ByteArray)[k]).toNat : Nat) : Int)) = true := by first | exact decide_eq_true (by omega) | simp
          have d8 : decide ((122 : Int) < ((((⟨t.toArray⟩ : ByteArray)[k]).toNat : Nat) : Int)) = false := by first | exact decide_eq_false (by omega) | simp
          have d9 : decide ((90 : Int) < ((((⟨t.toArray⟩ : ByteArray)[k]).toNat : Nat) : Int)) = false := by first | exact decide_eq_false (by omega) | simp
          have d90 : ((((((⟨t.toArray⟩ : ByteArray)[k]).toNat : Nat) : Int)) == 95) = false := by rw [beq_eq_false_iff_ne]; omega
          have d91 : ((((((⟨t.toArray⟩ : ByteArray)[k]).toNat : Nat) : Int)) != 95) = true := by rw [bne, d90]; rfl
          clear h hk0
          go_wp2_with fail
          go_ret
          exact ⟨by rw [← HH.out]; rfl, Kp.refl _⟩
        · have HH := Lib.hid (HNO.out (ok_false (by omega) (.inr (by omega))))
          have hkz : ((k : Int) == 0) = false := by rw [beq_eq_false_iff_ne]; omega
          have d0 : decide ((97 : Int) ≤ ((((⟨t.toArray⟩ : ByteArray)[k]).toNat : Nat) : Int)) = false := by first | exact decide_eq_false (by omega) | simp
          have d1 : decide (((((⟨t.toArray⟩ : ByteArray)[k]).toNat : Nat) : Int) ≤ 122) = true := by first | exact decide_eq_true (by omega) | simp
          have d2 : decide ((65 : Int) ≤ ((((⟨t.toArray⟩ : ByteArray)[k]).toNat : Nat) : Int)) = false := by first | exact decide_eq_false (by omega) | simp
          have d3 : decide (((((⟨t.toArray⟩ : ByteArray)[k]).toNat : Nat) : Int) ≤ 90) = true := by first | exact decide_eq_true (by omega) | simp
          have d4 : decide ((48 : Int) ≤ ((((⟨t.toArray⟩ : ByteArray)[k]).toNat : Nat) : Int)) = true := by first | exact decide_eq_true (by omega) | simp
          have d5 : decide (((((⟨t.toArray⟩ : ByteArray)[k]).toNat : Nat) : Int) ≤ 57) = false := by first | exact decide_eq_false (by omega) | simp
          have d6 : decide (((((⟨t.toArray⟩ : ByteArray)[k]).toNat : Nat) : Int) < 48) = false := by first | exact decide_eq_false (by omega) | simp
          have d7 : decide ((57 : Int) < ((((⟨t.toArray⟩ : ByteArray)[k]).toNat : Nat) : Int)) = true := by first | exact decide_eq_true (by omega) | simp
          have d8 : decide ((122 : Int) < ((((⟨t.toArray⟩ : ByteArray)[k]).toNat : Nat) : Int)) = false := by first | exact decide_eq_false (by omega) | simp
          have d9 : decide ((90 : Int) < ((((⟨t.toArray⟩ : ByteArray)[k]).toNat : Nat) : Int)) = false := by first | exact decide_eq_false (by omega) | simp
          have d90 : ((((((⟨t.toArray⟩ : ByteArray)[k]).toNat : Nat) : Int)) == 95) = false := by rw [beq_eq_false_iff_ne]; omega
          have d91 : ((((((⟨t.toArray⟩ : ByteArray)[k]).toNat : Nat) : Int)) != 95) = true := by rw [bne, d90]; rfl
          clear h hk0
          go_wp2_with fail
          go_ret
          exact ⟨by rw [← HH.out]; rfl, Kp.refl _⟩
      · by_cases hk0 : k = 0
        · have HH := Lib.hid (HNO.out (ok_false (by omega) (.inl hk0)))
          have hkz : ((k : Int) == 0) = true := by rw [hk0]; rfl
          have d0 : decide ((97 : Int) ≤ ((((⟨t.toArray⟩ : ByteArray)[k]).toNat : Nat) : Int)) = false := by first | exact decide_eq_false (by omega) | simp
          have d1 : decide (((((⟨t.toArray⟩ : ByteArray)[k]).toNat : Nat) : Int) ≤ 122) = true := by first | exact decide_eq_true (by omega) | simp
          have d2 : decide ((65 : Int) ≤ ((((⟨t.toArray⟩ : ByteArray)[k]).toNat : Nat) : Int)) = false := by first | exact decide_eq_false (by omega) | simp
          have d3 : decide (((((⟨t.toArray⟩ : ByteArray)[k]).toNat : Nat) : Int) ≤ 90) = true := by first | exact decide_eq_true (by omega) | simp
          have d4 : decide ((48 : Int) ≤ ((((⟨t.toArray⟩ : ByteArray)[k]).toNat : Nat) : Int)) = true := by first | exact decide_eq_true (by omega) | simp
          have d5 : decide (((((⟨t.toArray⟩ : ByteArray)[k]).toNat : Nat) : Int) ≤ 57) = true := by first | exact decide_eq_true (by omega) | simp
          have d6 : decide (((((⟨t.toArray⟩ : ByteArray)[k]).toNat : Nat) : Int) < 48) = false := by first | exact decide_eq_false (by omega) | simp
          have d7 : decide ((57 : Int) < ((((⟨t.toArray⟩ : ByteArray)[k]).toNat : Nat) : Int)) = false := by first | exact decide_eq_false (by omega) | simp
          have d8 : decide ((122 : Int) < ((((⟨t.toArray⟩ : ByteArray)[k]).toNat : Nat) : Int)) = false := by first | exact decide_eq_false (by omega) | simp
          have d9 : decide ((90 : Int) < ((((⟨t.toArray⟩ : ByteArray)[k]).toNat : Nat) : Int)) = false := by first | exact decide_eq_false (by omega) | simp
          have d90 : ((((((⟨t.toArray⟩ : ByteArray)[k]).toNat : Nat) : Int)) == 95) = false := by rw [beq_eq_false_iff_ne]; omega
          have d91 : ((((((⟨t.toArray⟩ : ByteArray)[k]).toNat : Nat) : Int)) != 95) = true := by rw [bne, d90]; rfl
          clear h hk0
          go_wp2_with fail
          go_ret
          exact ⟨by rw [← HH.out]; rfl, Kp.refl _⟩
        · have HH := Lib.hid (HYES.out (wrd_true (by omega) hk0))
          have hkz : ((k : Int) == 0) = false := by rw [beq_eq_false_iff_ne]; omega
          have d0 : decide ((97 : Int) ≤ ((((⟨t.toArray⟩ : ByteArray)[k]).toNat : Nat) : Int)) = false := by first | exact decide_eq_false (by omega) | simp
          have d1 : decide (((((⟨t.toArray⟩ : ByteArray)[k]).toNat : Nat) : Int) ≤ 122) = true := by first | exact decide_eq_true (by omega) | simp
          have d2 : decide ((65 : Int) ≤ ((((⟨t.toArray⟩ : ByteArray)[k]).toNat : Nat) : Int)) = false := by first | exact decide_eq_false (by omega) | simp
          have d3 : decide (((((⟨t.toArray⟩ : ByteArray)[k]).toNat : Nat) : Int) ≤ 90) = true := by first | exact decide_eq_true (by omega) | simp
          have d4 : decide ((48 : Int) ≤ ((((⟨t.toArray⟩ : ByteArray)[k]).toNat : Nat) : Int)) = true := by first | exact decide_eq_true (by omega) | simp
          have d5 : decide (((((⟨t.toArray⟩ : ByteArray)[k]).toNat : Nat) : Int) ≤ 57) = true := by first | exact decide_eq_true (by omega) | simp
          have d6 : decide (((((⟨t.toArray⟩ : ByteArray)[k]).toNat : Nat) : Int) < 48) = false := by first | exact decide_eq_false (by omega) | simp
          have d7 : decide ((57 : Int) < ((((⟨t.toArray⟩ : ByteArray)[k]).toNat : Nat) : Int)) = false := by first | exact decide_eq_false (by omega) | simp
          have d8 : decide ((122 : Int) < ((((⟨t.toArray⟩ : ByteArray)[k]).toNat : Nat) : Int)) = false := by first | exact decide_eq_false (by omega) | simp
          have d9 : decide ((90 : Int) < ((((⟨t.toArray⟩ : ByteArray)[k]).toNat : Nat) : Int)) = false := by first | exact decide_eq_false (by omega) | simp
          have d90 : ((((((⟨t.toArray⟩ : ByteArray)[k]).toNat : Nat) : Int)) == 95) = false := by rw [beq_eq_false_iff_ne]; omega
          have d91 : ((((((⟨t.toArray⟩ : ByteArray)[k]).toNat : Nat) : Int)) != 95) = true := by rw [bne, d90]; rfl
          clear h hk0
          go_wp2_with fail
          go_round
          case rel => exact ⟨k + 1, by omega, by go_num, rfl, HH.out⟩
          case measure => simp [intOf]; omega
      · by_cases hk0 : k = 0
        · have HH := Lib.hid (HNO.out (ok_false (by omega) (.inl hk0)))
          have hkz : ((k : Int) == 0) = true := by rw [hk0]; rfl
          have d0 : decide ((97 : Int) ≤ ((((⟨t.toArray⟩ : ByteArray)[k]).toNat : Nat) : Int)) = false := by first | exact decide_eq_false (by omega) | simp
          have d1 : decide (((((⟨t.toArray⟩ : ByteArray)[k]).toNat : Nat) : Int) ≤ 122) = true := by first | exact decide_eq_true (by omega) | simp
          have d2 : decide ((65 : Int) ≤ ((((⟨t.toArray⟩ : ByteArray)[k]).toNat : Nat) : Int)) = false := by first | exact decide_eq_false (by omega) | simp
          have d3 : decide (((((⟨t.toArray⟩ : ByteArray)[k]).toNat : Nat) : Int) ≤ 90) = true := by first | exact decide_eq_true (by omega) | simp
          have d4 : decide ((48 : Int) ≤ ((((⟨t.toArray⟩ : ByteArray)[k]).toNat : Nat) : Int)) = false := by first | exact decide_eq_false (by omega) | simp
          have d5 : decide (((((⟨t.toArray⟩ : ByteArray)[k]).toNat : Nat) : Int) ≤ 57) = true := by first | exact decide_eq_true (by omega) | simp
          have d6 : decide (((((⟨t.toArray⟩ : ByteArray)[k]).toNat : Nat) : Int) < 48) = true := by first | exact decide_eq_true (by omega) | simp
          have d7 : decide ((57 : Int) < ((((⟨t.toArray⟩ : ByteArray)[k]).toNat : Nat) : Int)) = false := by first | exact decide_eq_false (by omega) | simp
          have d8 : decide ((122 : Int) < ((((⟨t.toArray⟩ : ByteArray)[k]).toNat : Nat) : Int)) = false := by first | exact decide_eq_false (by omega) | simp
          have d9 : decide ((90 : Int) < ((((⟨t.toArray⟩ : ByteArray)[k]).toNat : Nat) : Int)) = false := by first | exact decide_eq_false (by omega) | simp
          have d90 : ((((((⟨t.toArray⟩ : ByteArray)[k]).toNat : Nat) : Int)) == 95) = false := by rw [beq_eq_false_iff_ne]; omega
          have d91 : ((((((⟨t.toArray⟩ : ByteArray)[k]).toNat : Nat) : Int)) != 95) = true := by rw [bne, d90]; rfl
          clear h hk0
          go_wp2_with fail
          go_ret
          exact ⟨by rw [← HH.out]; rfl, Kp.refl _⟩
        · have HH := Lib.hid (HNO.out (ok_false (by omega) (.inr (by omega))))
          have hkz : ((k : Int) == 0) = false := by rw [beq_eq_false_iff_ne]; omega
          have d0 : decide ((97 : Int) ≤ ((((⟨t.toArray⟩ : ByteArray)[k]).toNat : Nat) : Int)) = false := by first | exact decide_eq_false (by omega) | simp
          have d1 : decide (((((⟨t.toArray⟩ : ByteArray)[k]).toNat : Nat) : Int) ≤ 122) = true := by first | exact decide_eq_true (by omega) | simp
          have d2 : decide ((65 : Int) ≤ ((((⟨t.toArray⟩ : ByteArray)[k]).toNat : Nat) : Int)) = false := by first | exact decide_eq_false (by omega) | simp
          have d3 : decide (((((⟨t.toArray⟩ : ByteArray)[k]).toNat : Nat) : Int) ≤ 90) = true := by first | exact decide_eq_true (by omega) | simp
          have d4 : decide ((48 : Int) ≤ ((((⟨t.toArray⟩ : ByteArray)[k]).toNat : Nat) : Int)) = false := by first | exact decide_eq_false (by omega) | simp
          have d5 : decide (((((⟨t.toArray⟩ : ByteArray)[k]).toNat : Nat) : Int) ≤ 57) = true := by first | exact decide_eq_true (by omega) | simp
          have d6 : decide (((((⟨t.toArray⟩ : ByteArray)[k]).toNat : Nat) : Int) < 48) = true := by first | exact decide_eq_true (by omega) | simp
          have d7 : decide ((57 : Int) < ((((⟨t.toArray⟩ : ByteArray)[k]).toNat : Nat) : Int)) = false := by first | exact decide_eq_false (by omega) | simp
          have d8 : decide ((122 : Int) < ((((⟨t.toArray⟩ : ByteArray)[k]).toNat : Nat) : Int)) = false := by first | exact decide_eq_false (by omega) | simp
          have d9 : decide ((90 : Int) < ((((⟨t.toArray⟩ : ByteArray)[k]).toNat : Nat) : Int)) = false := by first | exact decide_eq_false (by omega) | simp
          have d90 : ((((((⟨t.toArray⟩ : ByteArray)[k]).toNat : Nat) : Int)) == 95) = false := by rw [beq_eq_false_iff_ne]; omega
          have d91 : ((((((⟨t.toArray⟩ : ByteArray)[k]).toNat : Nat) : Int)) != 95) = true := by rw [bne, d90]; rfl
          clear h hk0
          go_wp2_with fail
          go_ret
          exact ⟨by rw [← HH.out]; rfl, Kp.refl _⟩
    · obtain rfl : k = t.length := by omega
      have ha : nmAll t = true := nmAll_yes fun j hj => HALL.out j hj hj
      have hr : res = (!t.isEmpty && decide (t.length ≤ 32)) := by rw [HRES.out]; unfold nmB; rw [ha]; simp
      clear ha
      by_cases h0 : t = []
      · subst h0
        have hr2 : res = false := by rw [hr]; rfl
        have HR := Lib.hid hr2
        clear hr hr2
        go_wp2_with fail
        go_ret
        exact ⟨by rw [HR.out]; rfl, Kp.refl _⟩
      · have he : (t == []) = false := by rw [beq_eq_false_iff_ne]; exact h0
        have he2 : (t != []) = true := by rw [bne, he]; rfl
        have he' : t.isEmpty = false := by cases t <;> simp_all
        by_cases h32 : t.length ≤ 32
        · have hr2 : res = true := by rw [hr, he', decide_eq_true h32]; rfl
          have HR := Lib.hid hr2
          have hd : decide ((t.length : Int) ≤ 32) = true := decide_eq_true (by omega)
          clear hr hr2 h0
          go_wp2_with fail
          go_ret
          exact ⟨by rw [HR.out]; rfl, Kp.refl _⟩
        · have hr2 : res = false := by rw [hr, he', decide_eq_false h32]; rfl
          have HR := Lib.hid hr2
          have hd : decide ((t.length : Int) ≤ 32) = false := decide_eq_false (by omega)
          clear hr hr2 h0
          go_wp2_with fail
          go_ret
          exact ⟨by rw [HR.out]; rfl, Kp.refl _⟩
set_option maxRecDepth 100000 in
set_option maxHeartbeats 4000000 in
theorem isNameR_core (t : List UInt8) (hl : t.length ≤ 1000) (res : Bool) (hres : res = nmB t) (w : World) :
    Calls Tryz.prog 29 #[.string ⟨t.toArray⟩] w fun e w' => e = .returned (.bool res) ∧ Kp w w' := by
  have HRES := Lib.hid hres
  by_cases h0 : t = []
  · subst h0
    have hr2 : res = false := by rw [hres]; rfl
    have HR := Lib.hid hr2
    clear hres hr2 HRES
    go_enter Tryz.func29, Tryz.ntmps29
    go_wp2_with fail
    go_ret
    exact ⟨by rw [HR.out]; rfl, Kp.refl _⟩
  · have he : (t == []) = false := by rw [beq_eq_false_iff_ne]; exact h0
    have he2 : (t != []) = true := by rw [bne, he]; rfl
    have he' : t.isEmpty = false := by cases t <;> simp_all
    by_cases h32 : t.length ≤ 32
    · have hr3 : res = nmAll t := by rw [hres]; unfold nmB; rw [he', decide_eq_true h32]; simp
      have HR3 := Lib.hid hr3
      have hd : decide ((32 : Int) < (t.length : Int)) = false := decide_eq_false (by omega)
      clear hres hr3 h0 he' HRES
      go_enter Tryz.func29, Tryz.ntmps29
      have hcv := Lib.run_convert_string_bytes (P := Tryz.prog) w 9 30 5 ⟨t.toArray⟩ Tryz.underlying9 Tryz.underlying30 Tryz.underlying5
      rw [size_mk] at hcv
      obtain ⟨W0, hW0⟩ : ∃ W0, Lib.bytesWorld w 5 ⟨t.toArray⟩ = W0 := ⟨_, rfl⟩
      have hkw : Kp w W0 := by rw [← hW0]; exact Lib.bytesWorld_below w _ _
      have hcell : ∀ j (hj : j < t.length), W0.cell? ⟨w.heap.size, j, none⟩ = some (.int .u8 (((⟨t.toArray⟩ : ByteArray)[j]'(by rw [size_mk]; exact hj)).toNat : Int)) := fun j hj => by
        rw [← hW0, Lib.bytesWorld_cell w _ _ j (by rw [size_mk]; exact hj), get_mk t j (by rw [size_mk]; exact hj) hj]
        simp [List.getD_eq_getElem?_getD, List.getElem?_eq_getElem hj]
      have hlt0 : w.heap.size < W0.heap.size := by rw [← hW0, Lib.bytesWorld_size]; omega
      rw [hW0] at hcv
      obtain ⟨cap, hcap⟩ : ∃ cap, grownCap w t.length 0 5 = cap := ⟨_, rfl⟩
      rw [hcap] at hcv
      have HCELL := Lib.hid hcell
      have HKW := Lib.hid (And.intro hkw hlt0)
      clear hcap hW0 hkw hcell hlt0
      go_wp2_with fail
      go_loopw [2, 17] (fun r i wr => ∃ k : Nat, k ≤ t.length ∧ i = .int .i64 k ∧ r = .bool false ∧ (∀ j (h : j < t.length), j < k → okAt j t[j] = true) ∧ Kp W0 wr) (fun _ i _ => 1001 - (intOf i).toNat)
      case atStart => exact ⟨0, Nat.zero_le _, rfl, rfl, fun j h h' => by omega, Kp.refl _⟩
      case round =>
        obtain ⟨k, hk, rfl, rfl, hall, hkk⟩ := hrel
        have HALL := Lib.hid hall; clear hall
        have HKK := Lib.hid hkk
        have HK := Lib.hid (HKW.out.1.then hkk)
        clear hkk
        by_cases hlt : k < t.length
        · have hks : k < (⟨t.toArray⟩ : ByteArray).size := by rw [size_mk]; exact hlt
          have hg : (⟨t.toArray⟩ : ByteArray)[k] = t[k] := get_mk t k hks hlt
          have hc := (Below.cell HKK.out (p := ⟨w.heap.size, k, none⟩) HKW.out.2).trans (HCELL.out k hlt)
          have hyes : okAt k t[k] = true → ∀ j (h : j < t.length), j < k + 1 → okAt j t[j] = true := fun hok j h h' => by
            rcases Nat.lt_or_ge j k with h1 | h1
            · exact HALL.out j h h1
            · obtain rfl : j = k := by omega
              exact hok
          have hno : okAt k t[k] = false → false = res := fun h => by
            rw [HR3.out, nmAll_no hlt h]
          have HYES := Lib.hid hyes
          have HNO := Lib.hid hno
          rw [← hg] at HYES HNO
          have HKK2 := HKK.out
          clear hyes hno hg
          rcases byte_kinds (⟨t.toArray⟩ : ByteArray)[k] with h | h | h | h | h | h | h | h | h
          · have HH := Lib.hid (HYES.out (letB_true (by omega) k))
            have d0 : decide ((97 : Int) ≤ ((((⟨t.toArray⟩ : ByteArray)[k]).toNat : Nat) : Int)) = true := by first | exact decide_eq_true (by omega) | simp
            have d1 : decide (((((⟨t.toArray⟩ : ByteArray)[k]).toNat : Nat) : Int) ≤ 122) = true := by first | exact decide_eq_true (by omega) | simp
            have d2 : decide ((65 : Int) ≤ ((((⟨t.toArray⟩ : ByteArray)[k]).toNat : Nat) : Int)) = true := by first | exact decide_eq_true (by omega) | simp
            have d3 : decide (((((⟨t.toArray⟩ : ByteArray)[k]).toNat : Nat) : Int) ≤ 90) = false := by first | exact decide_eq_false (by omega) | simp
            have d4 : decide ((48 : Int) ≤ ((((⟨t.toArray⟩ : ByteArray)[k]).toNat : Nat) : Int)) = true := by first | exact decide_eq_true (by omega) | simp
            have d5 : decide (((((⟨t.toArray⟩ : ByteArray)[k]).toNat : Nat) : Int) ≤ 57) = false := by first | exact decide_eq_false (by omega) | simp
            have d6 : decide (((((⟨t.toArray⟩ : ByteArray)[k]).toNat : Nat) : Int) < 48) = false := by first | exact decide_eq_false (by omega) | simp
            have d7 : decide ((57 : Int) < ((((⟨t.toArray⟩ : ByteArray)[k]).toNat : Nat) : Int)) = true := by first | exact decide_eq_true (by omega) | simp
            have d8 : decide ((122 : Int) < ((((⟨t.toArray⟩ : ByteArray)[k]).toNat : Nat) : Int)) = false := by first | exact decide_eq_false (by omega) | simp
            have d9 : decide ((90 : Int) < ((((⟨t.toArray⟩ : ByteArray)[k]).toNat : Nat) : Int)) = true := by first | exact decide_eq_true (by omega) | simp
            have d90 : ((((((⟨t.toArray⟩ : ByteArray)[k]).toNat : Nat) : Int)) == 95) = false := by rw [beq_eq_false_iff_ne]; omega
            have d91 : ((((((⟨t.toArray⟩ : ByteArray)[k]).toNat : Nat) : Int)) != 95) = true := by rw [bne, d90]; rfl
            clear h
            go_wp2_with fail
            go_roundw
            case rel => exact ⟨k + 1, by omega, by go_num, rfl, HH.out, HKK.out⟩
            case measure => simp only [intOf]; omega
          · by_cases hk0 : k = 0
            · have HH := Lib.hid (HNO.out (ok_false (by omega) (.inl hk0)))
              have hkz : ((k : Int) == 0) = true := by rw [hk0]; rfl
              have d0 : decide ((97 : Int) ≤ ((((⟨t.toArray⟩ : ByteArray)[k]).toNat : Nat) : Int)) = true := by first | exact decide_eq_true (by omega) | simp
              have d1 : decide (((((⟨t.toArray⟩ : ByteArray)[k]).toNat : Nat) : Int) ≤ 122) = false := by first | exact decide_eq_false (by omega) | simp
              have d2 : decide ((65 : Int) ≤ ((((⟨t.toArray⟩ : ByteArray)[k]).toNat : Nat) : Int)) = true := by first | exact decide_eq_true (by omega) | simp
              have d3 : decide (((((⟨t.toArray⟩ : ByteArray)[k]).toNat : Nat) : Int) ≤ 90) = false := by first | exact decide_eq_false (by omega) | simp
              have d4 : decide ((48 : Int) ≤ ((((⟨t.toArray⟩ : ByteArray)[k]).toNat : Nat) : Int)) = true := by first | exact decide_eq_true (by omega) | simp
              have d5 : decide (((((⟨t.toArray⟩ : ByteArray)[k]).toNat : Nat) : Int) ≤ 57) = false := by first | exact decide_eq_false (by omega) | simp
              have d6 : decide (((((⟨t.toArray⟩ : ByteArray)[k]).toNat : Nat) : Int) < 48) = false := by first | exact decide_eq_false (by omega) | simp
              have d7 : decide ((57 : Int) < ((((⟨t.toArray⟩ : ByteArray)[k]).toNat : Nat) : Int)) = true := by first | exact decide_eq_true (by omega) | simp
              have d8 : decide ((122 : Int) < ((((⟨t.toArray⟩ : ByteArray)[k]).toNat : Nat) : Int)) = true := by first | exact decide_eq_true (by omega) | simp
              have d9 : decide ((90 : Int) < ((((⟨t.toArray⟩ : ByteArray)[k]).toNat : Nat) : Int)) = true := by first | exact decide_eq_true (by omega) | simp
              have d90 : ((((((⟨t.toArray⟩ : ByteArray)[k]).toNat : Nat) : Int)) == 95) = false := by rw [beq_eq_false_iff_ne]; omega
              have d91 : ((((((⟨t.toArray⟩ : ByteArray)[k]).toNat : Nat) : Int)) != 95) = true := by rw [bne, d90]; rfl
              clear h hk0
              go_wp2_with fail
              go_ret
              exact ⟨by rw [← HH.out]; rfl, HK.out⟩
            · have HH := Lib.hid (HNO.out (ok_false (by omega) (.inr (by omega))))
              have hkz : ((k : Int) == 0) = false := by rw [beq_eq_false_iff_ne]; omega
              have d0 : decide ((97 : Int) ≤ ((((⟨t.toArray⟩ : ByteArray)[k]).toNat : Nat) : Int)) = true := by first | exact decide_eq_true (by omega) | simp
              have d1 : decide (((((⟨t.toArray⟩ : ByteArray)[k]).toNat : Nat) : Int) ≤ 122) = false := by first | exact decide_eq_false (by omega) | simp
              have d2 : decide ((65 : Int) ≤ ((((⟨t.toArray⟩ : ByteArray)[k]).toNat : Nat) : Int)) = true := by first | exact decide_eq_true (by omega) | simp
              have d3 : decide (((((⟨t.toArray⟩ : ByteArray)[k]).toNat : Nat) : Int) ≤ 90) = false := by first | exact decide_eq_false (by omega) | simp
              have d4 : decide ((48 : Int) ≤ ((((⟨t.toArray⟩ : ByteArray)[k]).toNat : Nat) : Int)) = true := by first | exact decide_eq_true (by omega) | simp
              have d5 : decide (((((⟨t.toArray⟩ : ByteArray)[k]).toNat : Nat) : Int) ≤ 57) = false := by first | exact decide_eq_false (by omega) | simp
              have d6 : decide (((((⟨t.toArray⟩ : ByteArray)[k]).toNat : Nat) : Int) < 48) = false := by first | exact decide_eq_false (by omega) | simp
              have d7 : decide ((57 : Int) < ((((⟨t.toArray⟩ : ByteArray)[k]).toNat : Nat) : Int)) = true := by first | exact decide_eq_true (by omega) | simp
              have d8 : decide ((122 : Int) < ((((⟨t.toArray⟩ : ByteArray)[k]).toNat : Nat) : Int)) = true := by first | exact decide_eq_true (by omega) | simp
              have d9 : decide ((90 : Int) < ((((⟨t.toArray⟩ : ByteArray)[k]).toNat : Nat) : Int)) = true := by first | exact decide_eq_true (by omega) | simp
              have d90 : ((((((⟨t.toArray⟩ : ByteArray)[k]).toNat : Nat) : Int)) == 95) = false := by rw [beq_eq_false_iff_ne]; omega
              have d91 : ((((((⟨t.toArray⟩ : ByteArray)[k]).toNat : Nat) : Int)) != 95) = true := by rw [bne, d90]; rfl
              clear h hk0
              go_wp2_with fail
              go_ret
              exact ⟨by rw [← HH.out]; rfl, HK.out⟩
          · have HH := Lib.hid (HYES.out (letB_true (by omega) k))
            have d0 : decide ((97 : Int) ≤ ((((⟨t.toArray⟩ : ByteArray)[k]).toNat : Nat) : Int)) = false := by first | exact decide_eq_false (by omega) | simp
            have d1 : decide (((((⟨t.toArray⟩ : ByteArray)[k]).toNat : Nat) : Int) ≤ 122) = true := by first | exact decide_eq_true (by omega) | simp
            have d2 : decide ((65 : Int) ≤ ((((⟨t.toArray⟩ : ByteArray)[k]).toNat : Nat) : Int)) = true := by first | exact decide_eq_true (by omega) | simp
            have d3 : decide (((((⟨t.toArray⟩ : ByteArray)[k]).toNat : Nat) : Int) ≤ 90) = true := by first | exact decide_eq_true (by omega) | simp
            have d4 : decide ((48 : Int) ≤ ((((⟨t.toArray⟩ : ByteArray)[k]).toNat : Nat) : Int)) = true := by first | exact decide_eq_true (by omega) | simp
            have d5 : decide (((((⟨t.toArray⟩ : ByteArray)[k]).toNat : Nat) : Int) ≤ 57) = false := by first | exact decide_eq_false (by omega) | simp
            have d6 : decide (((((⟨t.toArray⟩ : ByteArray)[k]).toNat : Nat) : Int) < 48) = false := by first | exact decide_eq_false (by omega) | simp
            have d7 : decide ((57 : Int) < ((((⟨t.toArray⟩ : ByteArray)[k]).toNat : Nat) : Int)) = true := by first | exact decide_eq_true (by omega) | simp
            have d8 : decide ((122 : Int) < ((((⟨t.toArray⟩ : ByteArray)[k]).toNat : Nat) : Int)) = false := by first | exact decide_eq_false (by omega) | simp
            have d9 : decide ((90 : Int) < ((((⟨t.toArray⟩ : ByteArray)[k]).toNat : Nat) : Int)) = false := by first | exact decide_eq_false (by omega) | simp
            have d90 : ((((((⟨t.toArray⟩ : ByteArray)[k]).toNat : Nat) : Int)) == 95) = false := by rw [beq_eq_false_iff_ne]; omega
            have d91 : ((((((⟨t.toArray⟩ : ByteArray)[k]).toNat : Nat) : Int)) != 95) = true := by rw [bne, d90]; rfl
            clear h
            go_wp2_with fail
            go_roundw
            case rel => exact ⟨k + 1, by omega, by go_num, rfl, HH.out, HKK.out⟩
            case measure => simp only [intOf]; omega
          · by_cases hk0 : k = 0
            · have HH := Lib.hid (HNO.out (ok_false (by omega) (.inl hk0)))
              have hkz : ((k : Int) == 0) = true := by rw [hk0]; rfl
              have d0 : decide ((97 : Int) ≤ ((((⟨t.toArray⟩ : ByteArray)[k]).toNat : Nat) : Int)) = false := by first | exact decide_eq_false (by omega) | simp
              have d1 : decide (((((⟨t.toArray⟩ : ByteArray)[k]).toNat : Nat) : Int) ≤ 122) = true := by first | exact decide_eq_true (by omega) | simp
              have d2 : decide ((65 : Int) ≤ ((((⟨t.toArray⟩ : ByteArray)[k]).toNat : Nat) : Int)) = true := by first | exact decide_eq_true (by omega) | simp
              have d3 : decide (((((⟨t.toArray⟩ : ByteArray)[k]).toNat : Nat) : Int) ≤ 90) = false := by first | exact decide_eq_false (by omega) | simp
              have d4 : decide ((48 : Int) ≤ ((((⟨t.toArray⟩ : ByteArray)[k]).toNat : Nat) : Int)) = true := by first | exact decide_eq_true (by omega) | simp
              have d5 : decide (((((⟨t.toArray⟩ : ByteArray)[k]).toNat : Nat) : Int) ≤ 57) = false := by first | exact decide_eq_false (by omega) | simp
              have d6 : decide (((((⟨t.toArray⟩ : ByteArray)[k]).toNat : Nat) : Int) < 48) = false := by first | exact decide_eq_false (by omega) | simp
              have d7 : decide ((57 : Int) < ((((⟨t.toArray⟩ : ByteArray)[k]).toNat : Nat) : Int)) = true := by first | exact decide_eq_true (by omega) | simp
              have d8 : decide ((122 : Int) < ((((⟨t.toArray⟩ : ByteArray)[k]).toNat : Nat) : Int)) = false := by first | exact decide_eq_false (by omega) | simp
              have d9 : decide ((90 : Int) < ((((⟨t.toArray⟩ : ByteArray)[k]).toNat : Nat) : Int)) = true := by first | exact decide_eq_true (by omega) | simp
              have d90 : ((((((⟨t.toArray⟩ : ByteArray)[k]).toNat : Nat) : Int)) == 95) = true := by rw [beq_iff_eq]; omega
              have d91 : ((((((⟨t.toArray⟩ : ByteArray)[k]).toNat : Nat) : Int)) != 95) = false := by rw [bne, d90]; rfl
              clear h hk0
              go_wp2_with fail
              go_ret
              exact ⟨by rw [← HH.out]; rfl, HK.out⟩
            · have HH := Lib.hid (HYES.out (wrd_true (by omega) hk0))
              have hkz : ((k : Int) == 0) = false := by rw [beq_eq_false_iff_ne]; omega
              have d0 : decide ((97 : Int) ≤ ((((⟨t.toArray⟩ : ByteArray)[k]).toNat : Nat) : Int)) = false := by first | exact decide_eq_false (by omega) | simp
              have d1 : decide (((((⟨t.toArray⟩ : ByteArray)[k]).toNat : Nat) : Int) ≤ 122) = true := by first | exact decide_eq_true (by omega) | simp
              have d2 : decide ((65 : Int) ≤ ((((⟨t.toArray⟩ : ByteArray)[k]).toNat : Nat) : Int)) = true := by first | exact decide_eq_true (by omega) | simp
              have d3 : decide (((((⟨t.toArray⟩ : ByteArray)[k]).toNat : Nat) : Int) ≤ 90) = false := by first | exact decide_eq_false (by omega) | simp
              have d4 : decide ((48 : Int) ≤ ((((⟨t.toArray⟩ : ByteArray)[k]).toNat : Nat) : Int)) = true := by first | exact decide_eq_true (by omega) | simp
              have d5 : decide (((((⟨t.toArray⟩ : ByteArray)[k]).toNat : Nat) : Int) ≤ 57) = false := by first | exact decide_eq_false (by omega) | simp
              have d6 : decide (((((⟨t.toArray⟩ : ByteArray)[k]).toNat : Nat) : Int) < 48) = false := by first | exact decide_eq_false (by omega) | simp
              have d7 : decide ((57 : Int) < ((((⟨t.toArray⟩ : ByteArray)[k]).toNat : Nat) : Int)) = true := by first | exact decide_eq_true (by omega) | simp
              have d8 : decide ((122 : Int) < ((((⟨t.toArray⟩ : ByteArray)[k]).toNat : Nat) : Int)) = false := by first | exact decide_eq_false (by omega) | simp
              have d9 : decide ((90 : Int) < ((((⟨t.toArray⟩ : ByteArray)[k]).toNat : Nat) : Int)) = true := by first | exact decide_eq_true (by omega) | simp
              have d90 : ((((((⟨t.toArray⟩ : ByteArray)[k]).toNat : Nat) : Int)) == 95) = true := by rw [beq_iff_eq]; omega
              have d91 : ((((((⟨t.toArray⟩ : ByteArray)[k]).toNat : Nat) : Int)) != 95) = false := by rw [bne, d90]; rfl
              clear h hk0
              go_wp2_with fail
              go_roundw
              case rel => exact ⟨k + 1, by omega, by go_num, rfl, HH.out, HKK.out⟩
              case measure => simp only [intOf]; omega
          · by_cases hk0 : k = 0
            · have HH := Lib.hid (HNO.out (ok_false (by omega) (.inl hk0)))
              have hkz : ((k : Int) == 0) = true := by rw [hk0]; rfl
              have d0 : decide ((97 : Int) ≤ ((((⟨t.toArray⟩ : ByteArray)[k]).toNat : Nat) : Int)) = false := by first | exact decide_eq_false (by omega) | simp
              have d1 : decide (((((⟨t.toArray⟩ : ByteArray)[k]).toNat : Nat) : Int) ≤ 122) = true := by first | exact decide_eq_true (by omega) | simp
              have d2 : decide ((65 : Int) ≤ ((((⟨t.toArray⟩ : ByteArray)[k]).toNat : Nat) : Int)) = true := by first | exact decide_eq_true (by omega) | simp
              have d3 : decide (((((⟨t.toArray⟩ : ByteArray)[k]).toNat : Nat) : Int) ≤ 90) = false := by first | exact decide_eq_false (by omega) | simp
              have d4 : decide ((48 : Int) ≤ ((((⟨t.toArray⟩ : ByteArray)[k]).toNat : Nat) : Int)) = true := by first | exact decide_eq_true (by omega) | simp
              have d5 : decide (((((⟨t.toArray⟩ : ByteArray)[k]).toNat : Nat) : Int) ≤ 57) = false := by first | exact decide_eq_false (by omega) | simp
              have d6 : decide (((((⟨t.toArray⟩ : ByteArray)[k]).toNat : Nat) : Int) < 48) = false := by first | exact decide_eq_false (by omega) | simp
              have d7 : decide ((57 : Int) < ((((⟨t.toArray⟩ : ByteArray)[k]).toNat : Nat) : Int)) = true := by first | exact decide_eq_true (by omega) | simp
              have d8 : decide ((122 : Int) < ((((⟨t.toArray⟩ : ByteArray)[k]).toNat : Nat) : Int)) = false := by first | exact decide_eq_false (by omega) | simp
              have d9 : decide ((90 : Int) < ((((⟨t.toArray⟩ : ByteArray)[k]).toNat : Nat) : Int)) = true := by first | exact decide_eq_true (by omega) | simp
              have d90 : ((((((⟨t.toArray⟩ : ByteArray)[k]).toNat : Nat) : Int)) == 95) = false := by rw [beq_eq_false_iff_ne]; omega
              have d91 : ((((((⟨t.toArray⟩ : ByteArray)[k]).toNat : Nat) : Int)) != 95) = true := by rw [bne, d90]; rfl
              clear h hk0
              go_wp2_with fail
              go_ret
              exact ⟨by rw [← HH.out]; rfl, HK.out⟩
            · have HH := Lib.hid (HNO.out (ok_false (by omega) (.inr (by omega))))
              have hkz : ((k : Int) == 0) = false := by rw [beq_eq_false_iff_ne]; omega
              have d0 : decide ((97 : Int) ≤ ((((⟨t.toArray⟩ : ByteArray)[k]).toNat : Nat) : Int)) = false := by first | exact decide_eq_false (by omega) | simp
              have d1 : decide (((((⟨t.toArray⟩ : ByteArray)[k]).toNat : Nat) : Int) ≤ 122) = true := by first | exact decide_eq_true (by omega) | simp
              have d2 : decide ((65 : Int) ≤ ((((⟨t.toArray⟩ : ByteArray)[k]).toNat : Nat) : Int)) = true := by first | exact decide_eq_true (by omega) | simp
              have d3 : decide (((((⟨t.toArray⟩ : ByteArray)[k]).toNat : Nat) : Int) ≤ 90) = false := by first | exact decide_eq_false (by omega) | simp
              have d4 : decide ((48 : Int) ≤ ((((⟨t.toArray⟩ : ByteArray)[k]).toNat : Nat) : Int)) = true := by first | exact decide_eq_true (by omega) | simp
              have d5 : decide (((((⟨t.toArray⟩ : ByteArray)[k]).toNat : Nat) : Int) ≤ 57) = false := by first | exact decide_eq_false (by omega) | simp
              have d6 : decide (((((⟨t.toArray⟩ : ByteArray)[k]).toNat : Nat) : Int) < 48) = false := by first | exact decide_eq_false (by omega) | simp
              have d7 : decide ((57 : Int) < ((((⟨t.toArray⟩ : ByteArray)[k]).toNat : Nat) : Int)) = true := by first | exact decide_eq_true (by omega) | simp
              have d8 : decide ((122 : Int) < ((((⟨t.toArray⟩ : ByteArray)[k]).toNat : Nat) : Int)) = false := by first | exact decide_eq_false (by omega) | simp
              have d9 : decide ((90 : Int) < ((((⟨t.toArray⟩ : ByteArray)[k]).toNat : Nat) : Int)) = true := by first | exact decide_eq_true (by omega) | simp
              have d90 : ((((((⟨t.toArray⟩ : ByteArray)[k]).toNat : Nat) : Int)) == 95) = false := by rw [beq_eq_false_iff_ne]; omega
              have d91 : ((((((⟨t.toArray⟩ : ByteArray)[k]).toNat : Nat) : Int)) != 95) = true := by rw [bne, d90]; rfl
              clear h hk0
              go_wp2_with fail
              go_ret
              exact ⟨by rw [← HH.out]; rfl, HK.out⟩
          · by_cases hk0 : k = 0
            · have HH := Lib.hid (HNO.out (ok_false (by omega) (.inl hk0)))
              have hkz : ((k : Int) == 0) = true := by rw [hk0]; rfl
              have d0 : decide ((97 : Int) ≤ ((((⟨t.toArray⟩ : ByteArray)[k]).toNat : Nat) : Int)) = false := by first | exact decide_eq_false (by omega) | simp
              have d1 : decide (((((⟨t.toArray⟩ : ByteArray)[k]).toNat : Nat) : Int) ≤ 122) = true := by first | exact decide_eq_true (by omega) | simp
              have d2 : decide ((65 : Int) ≤ ((((⟨t.toArray⟩ : ByteArray)[k]).toNat : Nat) : Int)) = true := by first | exact decide_eq_true (by omega) | simp
              have d3 : decide (((((⟨t.toArray⟩ : ByteArray)[k]).toNat : Nat) : Int) ≤ 90) = false := by first | exact decide_eq_false (by omega) | simp
              have d4 : decide ((48 : Int) ≤ ((((⟨t.toArray⟩ : ByteArray)[k]).toNat : Nat) : Int)) = true := by first | exact decide_eq_true (by omega) | simp
              have d5 : decide (((((⟨t.toArray⟩ : ByteArray)[k]).toNat : Nat) : Int) ≤ 57) = false := by first | exact decide_eq_false (by omega) | simp
              have d6 : decide (((((⟨t.toArray⟩ : ByteArray)[k]).toNat : Nat) : Int) < 48) = false := by first | exact decide_eq_false (by omega) | simp
              have d7 : decide ((57 : Int) < ((((⟨t.toArray⟩ : ByteArray)[k]).toNat : Nat) : Int)) = true := by first | exact decide_eq_true (by omega) | simp
              have d8 : decide ((122 : Int) < ((((⟨t.toArray⟩ : ByteArray)[k]).toNat : Nat) : Int)) = false := by first | exact decide_eq_false (by omega) | simp
              have d9 : decide ((90 : Int) < ((((⟨t.toArray⟩ : ByteArray)[k]).toNat : Nat) : Int)) = true := by first | exact decide_eq_true (by omega) | simp
              have d90 : ((((((⟨t.toArray⟩ : ByteArray)[k]).toNat : Nat) : Int)) == 95) = false := by rw [beq_eq_false_iff_ne]; omega
              have d91 : ((((((⟨t.toArray⟩ : ByteArray)[k]).toNat : Nat) : Int)) != 95) = true := by rw [bne, d90]; rfl
              clear h hk0
              go_wp2_with fail
              go_ret
              exact ⟨by rw [← HH.out]; rfl, HK.out⟩
            · have HH := Lib.hid (HNO.out (ok_false (by omega) (.inr (by omega))))
              have hkz : ((k : Int) == 0) = false := by rw [beq_eq_false_iff_ne]; omega
              have d0 : decide ((97 : Int) ≤ ((((⟨t.toArray⟩ : ByteArray)[k]).toNat : Nat) : Int)) = false := by first | exact decide_eq_false (by omega) | simp
              have d1 : decide (((((⟨t.toArray⟩ : ByteArray)[k]).toNat : Nat) : Int) ≤ 122) = true := by first | exact decide_eq_true (by omega) | simp
              have d2 : decide ((65 : Int) ≤ ((((⟨t.toArray⟩ : ByteArray)[k]).toNat : Nat) : Int)) = true := by first | exact decide_eq_true (by omega) | simp
              have d3 : decide (((((⟨t.toArray⟩ : ByteArray)[k]).toNat : Nat) : Int) ≤ 90) = false := by first | exact decide_eq_false (by omega) | simp
              have d4 : decide ((48 : Int) ≤ ((((⟨t.toArray⟩ : ByteArray)[k]).toNat : Nat) : Int)) = true := by first | exact decide_eq_true (by omega) | simp
              have d5 : decide (((((⟨t.toArray⟩ : ByteArray)[k]).toNat : Nat) : Int) ≤ 57) = false := by first | exact decide_eq_false (by omega) | simp
              have d6 : decide (((((⟨t.toArray⟩ : ByteArray)[k]).toNat : Nat) : Int) < 48) = false := by first | exact decide_eq_false (by omega) | simp
              have d7 : decide ((57 : Int) < ((((⟨t.toArray⟩ : ByteArray)[k]).toNat : Nat) : Int)) = true := by first | exact decide_eq_true (by omega) | simp
              have d8 : decide ((122 : Int) < ((((⟨t.toArray⟩ : ByteArray)[k]).toNat : Nat) : Int)) = false := by first | exact decide_eq_false (by omega) | simp
              have d9 : decide ((90 : Int) < ((((⟨t.toArray⟩ : ByteArray)[k]).toNat : Nat) : Int)) = true := by first | exact decide_eq_true (by omega) | simp
              have d90 : ((((((⟨t.toArray⟩ : ByteArray)[k]).toNat : Nat) : Int)) == 95) = false := by rw [beq_eq_false_iff_ne]; omega
              have d91 : ((((((⟨t.toArray⟩ : ByteArray)[k]).toNat : Nat) : Int)) != 95) = true := by rw [bne, d90]; rfl
              clear h hk0
              go_wp2_with fail
              go_ret
              exact ⟨by rw [← HH.out]; rfl, HK.out⟩
          · by_cases hk0 : k = 0
            · have HH := Lib.hid (HNO.out (ok_false (by omega) (.inl hk0)))
              have hkz : ((k : Int) == 0) = true := by rw [hk0]; rfl
              have d0 : decide ((97 : Int) ≤ ((((⟨t.toArray⟩ : ByteArray)[k]).toNat : Nat) : Int)) = false := by first | exact decide_eq_false (by omega) | simp
              have d1 : decide (((((⟨t.toArray⟩ : ByteArray)[k]).toNat : Nat) : Int) ≤ 122) = true := by first | exact decide_eq_true (by omega) | simp
              have d2 : decide ((65 : Int) ≤ ((((⟨t.toArray⟩ : ByteArray)[k]).toNat : Nat) : Int)) = false := by first | exact decide_eq_false (by omega) | simp
              have d3 : decide (((((⟨t.toArray⟩ : ByteArray)[k]).toNat : Nat) : Int) ≤ 90) = true := by first | exact decide_eq_true (by omega) | simp
              have d4 : decide ((48 : Int) ≤ ((((⟨t.toArray⟩ : ByteArray)[k]).toNat : Nat) : Int)) = true := by first | exact decide_eq_true (by omega) | simp
              have d5 : decide (((((⟨t.toArray⟩ : ByteArray)[k]).toNat : Nat) : Int) ≤ 57) = false := by first | exact decide_eq_false (by omega) | simp
              have d6 : decide (((((⟨t.toArray⟩ : ByteArray)[k]).toNat : Nat) : Int) < 48) = false := by first | exact decide_eq_false (by omega) | simp
              have d7 : decide ((57 : Int) < ((((⟨t.toArray⟩ : ByteArray)[k]).toNat : Nat) : Int)) = true := by first | exact decide_eq_true (by omega) | simp
              have d8 : decide ((122 : Int) < ((((⟨t.toArray⟩ : ByteArray)[k]).toNat : Nat) : Int)) = false := by first | exact decide_eq_false (by omega) | simp
              have d9 : decide ((90 : Int) < ((((⟨t.toArray⟩ : ByteArray)[k]).toNat : Nat) : Int)) = false := by first | exact decide_eq_false (by omega) | simp
              have d90 : ((((((⟨t.toArray⟩ : ByteArray)[k]).toNat : Nat) : Int)) == 95) = false := by rw [beq_eq_false_iff_ne]; omega
              have d91 : ((((((⟨t.toArray⟩ : ByteArray)[k]).toNat : Nat) : Int)) != 95) = true := by rw [bne, d90]; rfl
              clear h hk0
              go_wp2_with fail
              go_ret
              exact ⟨by rw [← HH.out]; rfl, HK.out⟩
            · have HH := Lib.hid (HNO.out (ok_false (by omega) (.inr (by omega))))
              have hkz : ((k : Int) == 0) = false := by rw [beq_eq_false_iff_ne]; omega
              have d0 : decide ((97 : Int) ≤ ((((⟨t.toArray⟩ : ByteArray)[k]).toNat : Nat) : Int)) = false := by first | exact decide_eq_false (by omega) | simp
              have d1 : decide (((((⟨t.toArray⟩ : ByteArray)[k]).toNat : Nat) : Int) ≤ 122) = true := by first | exact decide_eq_true (by omega) | simp
              have d2 : decide ((65 : Int) ≤ ((((⟨t.toArray⟩ : ByteArray)[k]).toNat : Nat) : Int)) = false := by first | exact decide_eq_false (by omega) | simp
              have d3 : decide (((((⟨t.toArray⟩ : ByteArray)[k]).toNat : Nat) : Int) ≤ 90) = true := by first | exact decide_eq_true (by omega) | simp
              have d4 : decide ((48 : Int) ≤ ((((⟨t.toArray⟩ : ByteArray)[k]).toNat : Nat) : Int)) = true := by first | exact decide_eq_true (by omega) | simp
              have d5 : decide (((((⟨t.toArray⟩ : ByteArray)[k]).toNat : Nat) : Int) ≤ 57) = false := by first | exact decide_eq_false (by omega) | simp
              have d6 : decide (((((⟨t.toArray⟩ : ByteArray)[k]).toNat : Nat) : Int) < 48) = false := by first | exact decide_eq_false (by omega) | simp
              have d7 : decide ((57 : Int) < ((((⟨t.toArray⟩ : ByteArray)[k]).toNat : Nat) : Int)) = true := by first | exact decide_eq_true (by omega) | simp
              have d8 : decide ((122 : Int) < ((((⟨t.toArray⟩ : ByteArray)[k]).toNat : Nat) : Int)) = false := by first | exact decide_eq_false (by omega) | simp
              have d9 : decide ((90 : Int) < ((((⟨t.toArray⟩ : ByteArray)[k]).toNat : Nat) : Int)) = false := by first | exact decide_eq_false (by omega) | simp
              have d90 : ((((((⟨t.toArray⟩ : ByteArray)[k]).toNat : Nat) : Int)) == 95) = false := by rw [beq_eq_false_iff_ne]; omega
              have d91 : ((((((⟨t.toArray⟩ : ByteArray)[k]).toNat : Nat) : Int)) != 95) = true := by rw [bne, d90]; rfl
              clear h hk0
              go_wp2_with fail
              go_ret
              exact ⟨by rw [← HH.out]; rfl, HK.out⟩
          · by_cases hk0 : k = 0
            · have HH := Lib.hid (HNO.out (ok_false (by omega) (.inl hk0)))
              have hkz : ((k : Int) == 0) = true := by rw [hk0]; rfl
              have d0 : decide ((97 : Int) ≤ ((((⟨t.toArray⟩ : ByteArray)[k]).toNat : Nat) : Int)) = false := by first | exact decide_eq_false (by omega) | simp
              have d1 : decide (((((⟨t.toArray⟩ : ByteArray)[k]).toNat : Nat) : Int) ≤ 122) = true := by first | exact decide_eq_true (by omega) | simp
              have d2 : decide ((65 : Int) ≤ ((((⟨t.toArray⟩ : ByteArray)[k]).toNat : Nat) : Int)) = false := by first | exact decide_eq_false (by omega) | simp
              have d3 : decide (((((⟨t.toArray⟩ : ByteArray)[k]).toNat : Nat) : Int) ≤ 90) = true := by first | exact decide_eq_true (by omega) | simp
              have d4 : decide ((48 : Int) ≤ ((((⟨t.toArray⟩ : ByteArray)[k]).toNat : Nat) : Int)) = true := by first | exact decide_eq_true (by omega) | simp
              have d5 : decide (((((⟨t.toArray⟩ : ByteArray)[k]).toNat : Nat) : Int) ≤ 57) = true := by first | exact decide_eq_true (by omega) | simp
              have d6 : decide (((((⟨t.toArray⟩ : ByteArray)[k]).toNat : Nat) : Int) < 48) = false := by first | exact decide_eq_false (by omega) | simp
              have d7 : decide ((57 : Int) < ((((⟨t.toArray⟩ : ByteArray)[k]).toNat : Nat) : Int)) = false := by first | exact decide_eq_false (by omega) | simp
              have d8 : decide ((122 : Int) < ((((⟨t.toArray⟩ : ByteArray)[k]).toNat : Nat) : Int)) = false := by first | exact decide_eq_false (by omega) | simp
              have d9 : decide ((90 : Int) < ((((⟨t.toArray⟩ : ByteArray)[k]).toNat : Nat) : Int)) = false := by first | exact decide_eq_false (by omega) | simp
              have d90 : ((((((⟨t.toArray⟩ : ByteArray)[k]).toNat : Nat) : Int)) == 95) = false := by rw [beq_eq_false_iff_ne]; omega
              have d91 : ((((((⟨t.toArray⟩ : ByteArray)[k]).toNat : Nat) : Int)) != 95) = true := by rw [bne, d90]; rfl
              clear h hk0
              go_wp2_with fail
              go_ret
              exact ⟨by rw [← HH.out]; rfl, HK.out⟩
            · have HH := Lib.hid (HYES.out (wrd_true (by omega) hk0))
              have hkz : ((k : Int) == 0) = false := by rw [beq_eq_false_iff_ne]; omega
              have d0 : decide ((97 : Int) ≤ ((((⟨t.toArray⟩ : ByteArray)[k]).toNat : Nat) : Int)) = false := by first | exact decide_eq_false (by omega) | simp
              have d1 : decide (((((⟨t.toArray⟩ : ByteArray)[k]).toNat : Nat) : Int) ≤ 122) = true := by first | exact decide_eq_true (by omega) | simp
              have d2 : decide ((65 : Int) ≤ ((((⟨t.toArray⟩ : ByteArray)[k]).toNat : Nat) : Int)) = false := by first | exact decide_eq_false (by omega) | simp
              have d3 : decide (((((⟨t.toArray⟩ : ByteArray)[k]).toNat : Nat) : Int) ≤ 90) = true := by first | exact decide_eq_true (by omega) | simp
              have d4 : decide ((48 : Int) ≤ ((((⟨t.toArray⟩ : ByteArray)[k]).toNat : Nat) : Int)) = true := by first | exact decide_eq_true (by omega) | simp
              have d5 : decide (((((⟨t.toArray⟩ : ByteArray)[k]).toNat : Nat) : Int) ≤ 57) = true := by first | exact decide_eq_true (by omega) | simp
              have d6 : decide (((((⟨t.toArray⟩ : ByteArray)[k]).toNat : Nat) : Int) < 48) = false := by first | exact decide_eq_false (by omega) | simp
              have d7 : decide ((57 : Int) < ((((⟨t.toArray⟩ : ByteArray)[k]).toNat : Nat) : Int)) = false := by first | exact decide_eq_false (by omega) | simp
              have d8 : decide ((122 : Int) < ((((⟨t.toArray⟩ : ByteArray)[k]).toNat : Nat) : Int)) = false := by first | exact decide_eq_false (by omega) | simp
              have d9 : decide ((90 : Int) < ((((⟨t.toArray⟩ : ByteArray)[k]).toNat : Nat) : Int)) = false := by first | exact decide_eq_false (by omega) | simp
              have d90 : ((((((⟨t.toArray⟩ : ByteArray)[k]).toNat : Nat) : Int)) == 95) = false := by rw [beq_eq_false_iff_ne]; omega
              have d91 : ((((((⟨t.toArray⟩ : ByteArray)[k]).toNat : Nat) : Int)) != 95) = true := by rw [bne, d90]; rfl
              clear h hk0
              go_wp2_with fail
              go_roundw
              case rel => exact ⟨k + 1, by omega, by go_num, rfl, HH.out, HKK.out⟩
              case measure => simp only [intOf]; omega
          · by_cases hk0 : k = 0
            · have HH := Lib.hid (HNO.out (ok_false (by omega) (.inl hk0)))
              have hkz : ((k : Int) == 0) = true := by rw [hk0]; rfl
              have d0 : decide ((97 : Int) ≤ ((((⟨t.toArray⟩ : ByteArray)[k]).toNat : Nat) : Int)) = false := by first | exact decide_eq_false (by omega) | simp
              have d1 : decide (((((⟨t.toArray⟩ : ByteArray)[k]).toNat : Nat) : Int) ≤ 122) = true := by first | exact decide_eq_true (by omega) | simp
              have d2 : decide ((65 : Int) ≤ ((((⟨t.toArray⟩ : ByteArray)[k]).toNat : Nat) : Int)) = false := by first | exact decide_eq_false (by omega) | simp
              have d3 : decide (((((⟨t.toArray⟩ : ByteArray)[k]).toNat : Nat) : Int) ≤ 90) = true := by first | exact decide_eq_true (by omega) | simp
              have d4 : decide ((48 : Int) ≤ ((((⟨t.toArray⟩ : ByteArray)[k]).toNat : Nat) : Int)) = false := by first | exact decide_eq_false (by omega) | simp
              have d5 : decide (((((⟨t.toArray⟩ : ByteArray)[k]).toNat : Nat) : Int) ≤ 57) = true := by first | exact decide_eq_true (by omega) | simp
              have d6 : decide (((((⟨t.toArray⟩ : ByteArray)[k]).toNat : Nat) : Int) < 48) = true := by first | exact decide_eq_true (by omega) | simp
              have d7 : decide ((57 : Int) < ((((⟨t.toArray⟩ : ByteArray)[k]).toNat : Nat) : Int)) = false := by first | exact decide_eq_false (by omega) | simp
              have d8 : decide ((122 : Int) < ((((⟨t.toArray⟩ : ByteArray)[k]).toNat : Nat) : Int)) = false := by first | exact decide_eq_false (by omega) | simp
              have d9 : decide ((90 : Int) < ((((⟨t.toArray⟩ : ByteArray)[k]).toNat : Nat) : Int)) = false := by first | exact decide_eq_false (by omega) | simp
              have d90 : ((((((⟨t.toArray⟩ : ByteArray)[k]).toNat : Nat) : Int)) == 95) = false := by rw [beq_eq_false_iff_ne]; omega
              have d91 : ((((((⟨t.toArray⟩ : ByteArray)[k]).toNat : Nat) : Int)) != 95) = true := by rw [bne, d90]; rfl
              clear h hk0
              go_wp2_with fail
              go_ret
              exact ⟨by rw [← HH.out]; rfl, HK.out⟩
            · have HH := Lib.hid (HNO.out (ok_false (by omega) (.inr (by omega))))
              have hkz : ((k : Int) == 0) = false := by rw [beq_eq_false_iff_ne]; omega
              have d0 : decide ((97 : Int) ≤ ((((⟨t.toArray⟩ : ByteArray)[k]).toNat : Nat) : Int)) = false := by first | exact decide_eq_false (by omega) | simp
              have d1 : decide (((((⟨t.toArray⟩ : ByteArray)[k]).toNat : Nat) : Int) ≤ 122) = true := by first | exact decide_eq_true (by omega) | simp
              have d2 : decide ((65 : Int) ≤ ((((⟨t.toArray⟩ : ByteArray)[k]).toNat : Nat) : Int)) = false := by first | exact decide_eq_false (by omega) | simp
              have d3 : decide (((((⟨t.toArray⟩ : ByteArray)[k]).toNat : Nat) : Int) ≤ 90) = true := by first | exact decide_eq_true (by omega) | simp
              have d4 : decide ((48 : Int) ≤ ((((⟨t.toArray⟩ : ByteArray)[k]).toNat : Nat) : Int)) = false := by first | exact decide_eq_false (by omega) | simp
              have d5 : decide (((((⟨t.toArray⟩ : ByteArray)[k]).toNat : Nat) : Int) ≤ 57) = true := by first | exact decide_eq_true (by omega) | simp
              have d6 : decide (((((⟨t.toArray⟩ : ByteArray)[k]).toNat : Nat) : Int) < 48) = true := by first | exact decide_eq_true (by omega) | simp
              have d7 : decide ((57 : Int) < ((((⟨t.toArray⟩ : ByteArray)[k]).toNat : Nat) : Int)) = false := by first | exact decide_eq_false (by omega) | simp
              have d8 : decide ((122 : Int) < ((((⟨t.toArray⟩ : ByteArray)[k]).toNat : Nat) : Int)) = false := by first | exact decide_eq_false (by omega) | simp
              have d9 : decide ((90 : Int) < ((((⟨t.toArray⟩ : ByteArray)[k]).toNat : Nat) : Int)) = false := by first | exact decide_eq_false (by omega) | simp
              have d90 : ((((((⟨t.toArray⟩ : ByteArray)[k]).toNat : Nat) : Int)) == 95) = false := by rw [beq_eq_false_iff_ne]; omega
              have d91 : ((((((⟨t.toArray⟩ : ByteArray)[k]).toNat : Nat) : Int)) != 95) = true := by rw [bne, d90]; rfl
              clear h hk0
              go_wp2_with fail
              go_ret
              exact ⟨by rw [← HH.out]; rfl, HK.out⟩
        · obtain rfl : k = t.length := by omega
          have ha : nmAll t = true := nmAll_yes fun j hj => HALL.out j hj hj
          have HA := Lib.hid ha
          clear ha
          go_wp2_with fail
          go_ret
          exact ⟨by rw [HR3.out, HA.out]; rfl, HK.out⟩
    · have hr2 : res = false := by rw [hres]; unfold nmB; rw [he', decide_eq_false h32]; rfl
      have HR := Lib.hid hr2
      have hd : decide ((32 : Int) < (t.length : Int)) = true := decide_eq_true (by omega)
      clear hres hr2 h0 HRES
      go_enter Tryz.func29, Tryz.ntmps29
      go_wp2_with fail
      go_ret
      exact ⟨by rw [HR.out]; rfl, Kp.refl _⟩
end Go.Proofs.YtjcfejncjdhplaaGreatDoor
