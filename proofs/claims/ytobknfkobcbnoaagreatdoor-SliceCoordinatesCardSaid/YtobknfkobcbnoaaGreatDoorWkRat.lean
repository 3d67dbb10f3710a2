/-
  klippe/rational: sums, products, opposites of small numbers.
-/
import Derived.Test.YtobknfkobcbnoaaGreatDoorWkQuick
import Derived.Test.YtobknfkobcbnoaaGreatDoorWkSmall
set_option linter.unusedSectionVars false
set_option linter.unusedVariables false
set_option linter.unusedSimpArgs false
namespace Go.Proofs.YtobknfkobcbnoaaGreatDoor
open Go.RowKit Go Klp

/-- the text of a number -/
def canon (q : Rat) : List UInt8 := rs q.num q.den
abbrev strV (l : List UInt8) : Value := .string ⟨l.toArray⟩
/-- a number that is calculated as two ints -/
structure Sm (q : Rat) : Prop where
  lo : -1000000000 < q.num
  hi : q.num < 1000000000
  den : q.den < 1000000000
theorem canon_inj {a b : Rat} (h : canon a = canon b) : a = b := by
  obtain ⟨h1, h2⟩ := rs_inj h
  exact Rat.ext h1 (by omega)
theorem canon_zero : canon 0 = [48] := by show rs 0 1 = _; rw [rs_one, itoa_zero]
theorem canon_one : canon 1 = [49] := by show rs 1 1 = _; rw [rs_one, itoa_one]
theorem canon_is_zero (q : Rat) : (canon q == [48]) = decide (q = 0) := by
  by_cases h : q = 0
  · subst h; rw [canon_zero]; rfl
  · rw [decide_eq_false h, beq_eq_false_iff_ne]
    intro e; rw [← canon_zero] at e; exact h (canon_inj e)
theorem canon_is_one (q : Rat) : (canon q == [49]) = decide (q = 1) := by
  by_cases h : q = 1
  · subst h; rw [canon_one]; rfl
  · rw [decide_eq_false h, beq_eq_false_iff_ne]
    intro e; rw [← canon_one] at e; exact h (canon_inj e)
theorem ratS_eq (n d : Int) : ratS n d = ⟨(rs n d).toArray⟩ := by
  unfold ratS rs
  split
  · rfl
  · apply ByteArray.ext; simp
theorem rs_neg {n d : Int} (h : n < 0) : rs n d = 45 :: rs (-n) d := by
  have e : Lib.itoa n = 45 :: Lib.itoa (-n) := by
    rw [itoa_neg' h, itoa_pos' (by omega)]; congr 2; omega
  unfold rs
  rw [e]
  split <;> simp
theorem rs_head {n d : Int} (h : ¬ n < 0) : ∃ c r, rs n d = c :: r ∧ isDig c := by
  have : ∃ c r, Lib.decDigits n.natAbs = c :: r ∧ isDig c := by
    cases hl : Lib.decDigits n.natAbs with
    | nil => have := dec_pos n.natAbs; rw [hl] at this; simp at this
    | cons c r => exact ⟨c, r, rfl, dec_dig n.natAbs c (by rw [hl]; exact List.mem_cons_self ..)⟩
  obtain ⟨c, r, hc, hd⟩ := this
  unfold rs
  rw [itoa_pos' h, hc]
  split
  · exact ⟨c, r, rfl, hd⟩
  · exact ⟨c, r ++ 47 :: Lib.itoa d, rfl, hd⟩

/-! ### small -/
theorem small_rat (n d : Int) (w : World) (hn : -9223372036854775807 ≤ n) (hn' : n ≤ 9223372036854775807) (hd : 1 ≤ d) (hd' : d ≤ 9223372036854775807) (ht : PTab w) :
    Calls Tryz.prog 60 #[.int .i64 n, .int .i64 d] w fun e w' => e = .returned (strV (canon (mkRat n d.toNat))) ∧ Kp w w' := by
  have hg0 : 0 < Int.gcd n d := Int.gcd_pos_of_ne_zero_right _ (by omega)
  have hgd : (Int.gcd n d : Int) ∣ d := Int.gcd_dvd_right ..
  have hgn : (Int.gcd n d : Int) ∣ n := Int.gcd_dvd_left ..
  have hle : (Int.gcd n d : Int) ≤ d := Int.le_of_dvd (by omega) hgd
  obtain ⟨a, ha⟩ := hgn
  obtain ⟨b, hb⟩ := hgd
  generalize hgg : (Int.gcd n d : Int) = g at *
  have hg1 : 1 ≤ g := by omega
  have q1 : n.tdiv g = a := by rw [ha]; exact Int.mul_tdiv_cancel_left _ (by omega)
  have q2 : d / g = b := by rw [hb]; exact Int.mul_ediv_cancel_left _ (by omega)
  have hab : a.natAbs ≤ n.natAbs := by
    rw [ha, Int.natAbs_mul]
    exact Nat.le_mul_of_pos_left _ (by omega)
  have hb1 : 1 ≤ b := by
    rcases Int.lt_or_le b 1 with h | h
    · exfalso
      have : g * b ≤ 0 := Int.mul_nonpos_of_nonneg_of_nonpos (by omega) (by omega)
      omega
    · exact h
  have hb2 : b ≤ d := by
    have : 1 * b ≤ g * b := Int.mul_le_mul_of_nonneg_right hg1 (by omega)
    omega
  refine (small_any n d g a b w hn hn' hd hd' hg1 hle (hgg ▸ rfl) q1 q2 (by omega) (by omega) hb1 (by omega) ht).mono ?_
  rintro e w' ⟨rfl, hk⟩
  refine ⟨?_, hk⟩
  rw [ratS_eq]
  have hdn : d.toNat ≠ 0 := by omega
  have hgcd : ((d.toNat.gcd n.natAbs : Nat) : Int) = g := by
    rw [← hgg]
    unfold Int.gcd
    rw [Nat.gcd_comm, show d.toNat = d.natAbs from by omega]
  have e1 : (mkRat n d.toNat).num = a := by
    rw [Rat.num_mkRat, if_neg hdn, hgcd, ha]; exact Int.mul_ediv_cancel_left _ (by omega)
  have e2 : ((mkRat n d.toNat).den : Int) = b := by
    rw [Rat.den_mkRat, if_neg hdn, Int.natCast_ediv, hgcd, show ((d.toNat : Nat) : Int) = d from by omega]; exact q2
  unfold canon
  rw [e1, e2]

/-! ### opposites -/
set_option maxHeartbeats 400000 in
theorem neg_zero_walk (w : World) : Calls Tryz.prog 89 #[strV [48]] w fun e w' => e = .returned (strV [48]) ∧ w' = w := by
  go_enter Tryz.func89, Tryz.ntmps89
  go_wp2
  go_ret
  exact ⟨rfl, rfl⟩
set_option maxHeartbeats 400000 in
theorem neg_minus_walk (r : List UInt8) (w : World) (hr : 0 < r.length) (hr2 : r.length ≤ 1000) : Calls Tryz.prog 89 #[.string ⟨(45 :: r).toArray⟩] w fun e w' => e = .returned (strV r) ∧ w' = w := by
  obtain ⟨l, hl⟩ : ∃ l, l = 45 :: r := ⟨_, rfl⟩
  have h1 : (l == [48]) = false := by rw [beq_eq_false_iff_ne, hl]; intro e; cases e
  have h2 : 0 < l.length := by rw [hl]; simp
  have h3 : ((((⟨l.toArray⟩ : ByteArray)[0]'(by rw [size_mk]; exact h2)).toNat : Int) == 45) = true := by subst hl; rfl
  have HL := Lib.hid hl
  rw [← hl]
  have h4 : l.length ≤ 1001 := by rw [hl]; simp; omega
  clear hl
  go_enter Tryz.func89, Tryz.ntmps89
  go_wp2
  go_ret
  refine ⟨?_, rfl⟩
  show Ending.returned (.string ((⟨l.toArray⟩ : ByteArray).extract 1 l.length)) = _
  rw [HL.out]
  congr 2
  apply ByteArray.ext
  simp [ByteArray.data_extract]
set_option maxHeartbeats 400000 in
theorem neg_plus_walk (l : List UInt8) (w : World) (h1 : (l == [48]) = false) (h2 : 0 < l.length) (h3 : (((⟨l.toArray⟩ : ByteArray)[0].toNat : Int) == 45) = false) (h4 : l.length ≤ 1000) :
    Calls Tryz.prog 89 #[.string ⟨l.toArray⟩] w fun e w' => e = .returned (strV (45 :: l)) ∧ w' = w := by
  have a1 := fun w => run_string_add_sum (P := Tryz.prog) (w := w) ⟨#[45]⟩ ⟨l.toArray⟩ (by simp [ByteArray.size]; omega)
  go_enter Tryz.func89, Tryz.ntmps89
  go_wp2
  go_ret
  refine ⟨?_, rfl⟩
  show Ending.returned (.string (⟨#[45]⟩ ++ ⟨l.toArray⟩)) = _
  congr 2
theorem neg_rs (n d : Int) (w : World) (hl : (rs n d).length ≤ 40) (h0 : n = 0 → d = 1) : Calls Tryz.prog 89 #[strV (rs n d)] w fun e w' => e = .returned (strV (rs (-n) d)) ∧ w' = w := by
  by_cases hz : n = 0
  · obtain rfl := h0 hz
    subst hz
    rw [rs_one, show Lib.itoa 0 = [48] from itoa_zero, show -(0 : Int) = 0 from rfl, rs_one, itoa_zero]
    exact neg_zero_walk w
  · by_cases hn : n < 0
    · rw [rs_neg hn]
      obtain ⟨c, r, hc, _⟩ := rs_head (n := -n) (d := d) (by omega)
      have : (rs n d).length = (rs (-n) d).length + 1 := by rw [rs_neg hn]; rfl
      exact neg_minus_walk (rs (-n) d) w (by rw [hc]; simp) (by omega)
    · obtain ⟨c, r, hc, hd⟩ := rs_head (n := n) (d := d) hn
      unfold isDig at hd
      rw [rs_neg (n := -n) (by omega), Int.neg_neg]
      refine neg_plus_walk (rs n d) w ?_ (by rw [hc]; simp) ?_ (by omega)
      · rw [beq_eq_false_iff_ne]; intro e
        rw [← itoa_zero, ← rs_one] at e
        exact hz (rs_inj e).1
      · rw [beq_eq_false_iff_ne]
        intro e
        have hz0 : 0 < (⟨(rs n d).toArray⟩ : ByteArray).size := by rw [size_mk, hc]; simp
        have hx : (⟨(rs n d).toArray⟩ : ByteArray)[0]'hz0 = c := by rw [get_mk _ 0 hz0 (by rw [hc]; simp)]; simp [hc]
        rw [hx] at e
        omega
theorem neg_rat (a : Rat) (w : World) (ha : Sm a) : Calls Tryz.prog 89 #[strV (canon a)] w fun e w' => e = .returned (strV (canon (-a))) ∧ w' = w := by
  have hd := a.den_pos
  have := rs_len ha.lo ha.hi (d := a.den) (by omega) (by have := ha.den; omega)
  have h := neg_rs a.num a.den w (by omega) (fun h => by
    have := a.reduced
    rw [h] at this
    have h1 : a.den = 1 := by simpa using this
    omega)
  exact h

/-! ### sums -/
theorem mul_bd {a b : Int} {k : Nat} (h1 : -(k : Int) ≤ a) (h2 : a ≤ k) {m : Nat} (h3 : -(m : Int) ≤ b) (h4 : b ≤ m) : -((k * m : Nat) : Int) ≤ a * b ∧ a * b ≤ ((k * m : Nat) : Int) := by
  have h : (a * b).natAbs ≤ k * m := by rw [Int.natAbs_mul]; exact Nat.mul_le_mul (by omega) (by omega)
  omega
set_option maxHeartbeats 400000 in
theorem add_zero1 (l : List UInt8) (w : World) : Calls Tryz.prog 42 #[.string ⟨([48] : List UInt8).toArray⟩, .string ⟨l.toArray⟩] w fun e w' => e = .returned (strV l) ∧ w' = w := by
  go_enter Tryz.func42, Tryz.ntmps42
  go_wp2_with fail
  go_ret
  exact ⟨rfl, rfl⟩
set_option maxHeartbeats 400000 in
theorem add_zero2 (l : List UInt8) (w : World) (h : (l == [48]) = false) : Calls Tryz.prog 42 #[.string ⟨l.toArray⟩, .string ⟨([48] : List UInt8).toArray⟩] w fun e w' => e = .returned (strV l) ∧ w' = w := by
  go_enter Tryz.func42, Tryz.ntmps42
  go_wp2_with fail
  go_ret
  exact ⟨rfl, rfl⟩
set_option maxHeartbeats 400000 in
theorem add_walk (la lb : List UInt8) (n d m e : Int) (w : World) (h1 : (la == [48]) = false) (h2 : (lb == [48]) = false)
    (qa : ∀ w, Calls Tryz.prog 59 #[.string ⟨la.toArray⟩] w fun x w' => x = .returned (.tuple #[.int .i64 n, .int .i64 d, .bool true]) ∧ w' = w)
    (qb : ∀ w, Calls Tryz.prog 59 #[.string ⟨lb.toArray⟩] w fun x w' => x = .returned (.tuple #[.int .i64 m, .int .i64 e, .bool true]) ∧ w' = w)
    (b1 : -1000000000000000000 ≤ n * e) (b2 : n * e ≤ 1000000000000000000) (b3 : -1000000000000000000 ≤ m * d) (b4 : m * d ≤ 1000000000000000000) (b5 : 1 ≤ d * e) (b6 : d * e ≤ 1000000000000000000) (ht : PTab w) :
    Calls Tryz.prog 42 #[.string ⟨la.toArray⟩, .string ⟨lb.toArray⟩] w fun x w' => x = .returned (strV (canon (mkRat (n * e + m * d) (d * e).toNat))) ∧ Kp w w' := by
  have HA := Lib.hid qa; clear qa
  have HB := Lib.hid qb; clear qb
  have HT := Lib.hid ht; clear ht
  go_enter Tryz.func42, Tryz.ntmps42
  go_wp2_with fail
  refine (HA.out w).mono ?_
  rintro x w' ⟨rfl, hw⟩
  subst hw
  go_wp2_with fail
  refine (HB.out _).mono ?_
  rintro x w' ⟨rfl, hw⟩
  subst hw
  go_wp2_with fail
  refine (small_rat (n * e + m * d) (d * e) _ (by omega) (by omega) (by omega) (by omega) HT.out).mono ?_
  rintro x w' ⟨rfl, hk⟩
  have HK := Lib.hid hk; clear hk
  go_wp2_with fail
  go_ret
  exact ⟨rfl, HK.out⟩
theorem add_rat (a b : Rat) (w : World) (ha : Sm a) (hb : Sm b) (ht : PTab w) : Calls Tryz.prog 42 #[strV (canon a), strV (canon b)] w fun e w' => e = .returned (strV (canon (a + b))) ∧ Kp w w' := by
  by_cases h1 : a = 0
  · subst h1
    rw [canon_zero, Rat.zero_add]
    exact (add_zero1 (canon b) w).mono fun e w' ⟨h, hw⟩ => ⟨h, hw ▸ Kp.refl _⟩
  · have z1 : (canon a == [48]) = false := by rw [canon_is_zero, decide_eq_false h1]
    by_cases h2 : b = 0
    · subst h2
      rw [canon_zero, Rat.add_zero]
      exact (add_zero2 (canon a) w z1).mono fun e w' ⟨h, hw⟩ => ⟨h, hw ▸ Kp.refl _⟩
    · have z2 : (canon b == [48]) = false := by rw [canon_is_zero, decide_eq_false h2]
      have d1 := a.den_pos
      have d2 := b.den_pos
      have ⟨p1, p2, p3⟩ := ha
      have ⟨q1, q2, q3⟩ := hb
      have m1 := mul_bd (a := a.num) (b := b.den) (k := 1000000000) (m := 1000000000) (by omega) (by omega) (by omega) (by omega)
      have m2 := mul_bd (a := b.num) (b := a.den) (k := 1000000000) (m := 1000000000) (by omega) (by omega) (by omega) (by omega)
      have m3 := mul_bd (a := a.den) (b := b.den) (k := 1000000000) (m := 1000000000) (by omega) (by omega) (by omega) (by omega)
      have m4 : 0 < (a.den : Int) * b.den := Int.mul_pos (by omega) (by omega)
      have h := add_walk (canon a) (canon b) a.num a.den b.num b.den w z1 z2 (fun w => quick_rs _ _ w p1 p2 (by omega) (by omega)) (fun w => quick_rs _ _ w q1 q2 (by omega) (by omega)) (by omega) (by omega) (by omega) (by omega) (by omega) (by omega) ht
      rw [Rat.add_def']
      have : ((a.den : Int) * b.den).toNat = a.den * b.den := by rw [← Int.natCast_mul]; rfl
      rw [this] at h
      exact h

/-! ### products -/
set_option maxHeartbeats 400000 in
theorem mul_zero1 (l : List UInt8) (w : World) : Calls Tryz.prog 31 #[.string ⟨([48] : List UInt8).toArray⟩, .string ⟨l.toArray⟩] w fun e w' => e = .returned (strV [48]) ∧ w' = w := by
  go_enter Tryz.func31, Tryz.ntmps31
  go_wp2_with fail
  go_ret
  exact ⟨rfl, rfl⟩
set_option maxHeartbeats 400000 in
theorem mul_zero2 (l : List UInt8) (w : World) (h : (l == [48]) = false) : Calls Tryz.prog 31 #[.string ⟨l.toArray⟩, .string ⟨([48] : List UInt8).toArray⟩] w fun e w' => e = .returned (strV [48]) ∧ w' = w := by
  go_enter Tryz.func31, Tryz.ntmps31
  go_wp2_with fail
  go_ret
  exact ⟨rfl, rfl⟩
set_option maxHeartbeats 400000 in
theorem mul_one1 (l : List UInt8) (w : World) (h : (l == [48]) = false) : Calls Tryz.prog 31 #[.string ⟨([49] : List UInt8).toArray⟩, .string ⟨l.toArray⟩] w fun e w' => e = .returned (strV l) ∧ w' = w := by
  go_enter Tryz.func31, Tryz.ntmps31
  go_wp2_with fail
  go_ret
  exact ⟨rfl, rfl⟩
set_option maxHeartbeats 400000 in
theorem mul_one2 (l : List UInt8) (w : World) (h : (l == [48]) = false) (h' : (l == [49]) = false) : Calls Tryz.prog 31 #[.string ⟨l.toArray⟩, .string ⟨([49] : List UInt8).toArray⟩] w fun e w' => e = .returned (strV l) ∧ w' = w := by
  go_enter Tryz.func31, Tryz.ntmps31
  go_wp2_with fail
  go_ret
  exact ⟨rfl, rfl⟩
set_option maxHeartbeats 400000 in
theorem mul_walk (la lb : List UInt8) (n d m e : Int) (w : World) (h1 : (la == [48]) = false) (h2 : (lb == [48]) = false) (h3 : (la == [49]) = false) (h4 : (lb == [49]) = false)
    (qa : ∀ w, Calls Tryz.prog 59 #[.string ⟨la.toArray⟩] w fun x w' => x = .returned (.tuple #[.int .i64 n, .int .i64 d, .bool true]) ∧ w' = w)
    (qb : ∀ w, Calls Tryz.prog 59 #[.string ⟨lb.toArray⟩] w fun x w' => x = .returned (.tuple #[.int .i64 m, .int .i64 e, .bool true]) ∧ w' = w)
    (b1 : -1000000000000000000 ≤ n * m) (b2 : n * m ≤ 1000000000000000000) (b5 : 1 ≤ d * e) (b6 : d * e ≤ 1000000000000000000) (ht : PTab w) :
    Calls Tryz.prog 31 #[.string ⟨la.toArray⟩, .string ⟨lb.toArray⟩] w fun x w' => x = .returned (strV (canon (mkRat (n * m) (d * e).toNat))) ∧ Kp w w' := by
  have HA := Lib.hid qa; clear qa
  have HB := Lib.hid qb; clear qb
  have HT := Lib.hid ht; clear ht
  go_enter Tryz.func31, Tryz.ntmps31
  go_wp2_with fail
  refine (HA.out w).mono ?_
  rintro x w' ⟨rfl, hw⟩
  subst hw
  go_wp2_with fail
  refine (HB.out _).mono ?_
  rintro x w' ⟨rfl, hw⟩
  subst hw
  go_wp2_with fail
  refine (small_rat (n * m) (d * e) _ (by omega) (by omega) (by omega) (by omega) HT.out).mono ?_
  rintro x w' ⟨rfl, hk⟩
  have HK := Lib.hid hk; clear hk
  go_wp2_with fail
  go_ret
  exact ⟨rfl, HK.out⟩
theorem mul_rat (a b : Rat) (w : World) (ha : Sm a) (hb : Sm b) (ht : PTab w) : Calls Tryz.prog 31 #[strV (canon a), strV (canon b)] w fun e w' => e = .returned (strV (canon (a * b))) ∧ Kp w w' := by
  by_cases h1 : a = 0
  · subst h1
    rw [Rat.zero_mul, canon_zero]
    exact (mul_zero1 (canon b) w).mono fun e w' ⟨h, hw⟩ => ⟨h, hw ▸ Kp.refl _⟩
  have z1 : (canon a == [48]) = false := by rw [canon_is_zero, decide_eq_false h1]
  by_cases h2 : b = 0
  · subst h2
    rw [Rat.mul_zero, canon_zero]
    exact (mul_zero2 (canon a) w z1).mono fun e w' ⟨h, hw⟩ => ⟨h, hw ▸ Kp.refl _⟩
  have z2 : (canon b == [48]) = false := by rw [canon_is_zero, decide_eq_false h2]
  by_cases h3 : a = 1
  · subst h3
    rw [Rat.one_mul, canon_one]
    exact (mul_one1 (canon b) w z2).mono fun e w' ⟨h, hw⟩ => ⟨h, hw ▸ Kp.refl _⟩
  have z3 : (canon a == [49]) = false := by rw [canon_is_one, decide_eq_false h3]
  by_cases h4 : b = 1
  · subst h4
    rw [Rat.mul_one, canon_one]
    exact (mul_one2 (canon a) w z1 z3).mono fun e w' ⟨h, hw⟩ => ⟨h, hw ▸ Kp.refl _⟩
  have z4 : (canon b == [49]) = false := by rw [canon_is_one, decide_eq_false h4]
  have d1 := a.den_pos
  have d2 := b.den_pos
  have ⟨p1, p2, p3⟩ := ha
  have ⟨q1, q2, q3⟩ := hb
  have m1 := mul_bd (a := a.num) (b := b.num) (k := 1000000000) (m := 1000000000) (by omega) (by omega) (by omega) (by omega)
  have m3 := mul_bd (a := a.den) (b := b.den) (k := 1000000000) (m := 1000000000) (by omega) (by omega) (by omega) (by omega)
  have m4 : 0 < (a.den : Int) * b.den := Int.mul_pos (by omega) (by omega)
  have h := mul_walk (canon a) (canon b) a.num a.den b.num b.den w z1 z2 z3 z4 (fun w => quick_rs _ _ w p1 p2 (by omega) (by omega)) (fun w => quick_rs _ _ w q1 q2 (by omega) (by omega)) (by omega) (by omega) (by omega) (by omega) ht
  rw [Rat.mul_def']
  have : ((a.den : Int) * b.den).toNat = a.den * b.den := by rw [← Int.natCast_mul]; rfl
  rw [this] at h
  exact h
end Go.Proofs.YtobknfkobcbnoaaGreatDoor
