/-
  The texts of halves; what klippe/rational.Of is to make of an int of eight bits and 2.
-/
import Derived.Test.YtobknfkobcbnoaaGreatDoorSymTab
set_option linter.unusedSectionVars false
set_option linter.unusedVariables false
set_option linter.unusedSimpArgs false
namespace Go.Proofs.YtobknfkobcbnoaaGreatDoor
open Go Ev Klp

def digK (u : Nat) : List UInt8 := cond (Nat.blt u 10) [UInt8.ofNat (48 + u)] (cond (Nat.blt u 100) [UInt8.ofNat (48 + u / 10), UInt8.ofNat (48 + u % 10)] [UInt8.ofNat (48 + u / 100), UInt8.ofNat (48 + u / 10 % 10), UInt8.ofNat (48 + u % 10)])
theorem digK_eq {u : Nat} (h : u < 1000) : digK u = Lib.decDigits u := by
  unfold digK
  by_cases h1 : u < 10
  · rw [show Nat.blt u 10 = true from Nat.ble_eq_true_of_le h1, dec_small h1]; rfl
  · have b1 : Nat.blt u 10 = false := by rw [← Bool.not_eq_true]; exact fun hh => h1 (nblt_lt hh)
    rw [b1, dec_big h1]
    by_cases h2 : u < 100
    · rw [show Nat.blt u 100 = true from Nat.ble_eq_true_of_le h2, dec_small (u := u / 10) (by omega)]; rfl
    · have b2 : Nat.blt u 100 = false := by rw [← Bool.not_eq_true]; exact fun hh => h2 (nblt_lt hh)
      rw [b2, dec_big (u := u / 10) (by omega), dec_small (u := u / 10 / 10) (by omega), show u / 10 / 10 = u / 100 from by omega]; rfl
/-- the text of half of a number -/
def halfK : Int → List UInt8
  | .ofNat u => cond (Nat.beq (u % 2) 0) (digK (u / 2)) (digK u ++ [47, 50])
  | .negSucc u => cond (Nat.beq ((u + 1) % 2) 0) (45 :: digK ((u + 1) / 2)) (45 :: (digK (u + 1) ++ [47, 50]))
theorem half_even (m : Int) : ((2 * m : Int) : Rat) / ((2 : Int) : Rat) = (m : Rat) := by
  rw [Rat.intCast_mul]
  have := half_ne
  generalize ((2 : Int) : Rat) = t at *
  grind
theorem canon_int (m : Int) : canon (m : Rat) = Lib.itoa m := by
  show rs m 1 = _
  rw [rs_one]
theorem canon_odd (n : Int) (h : n.natAbs % 2 = 1) : canon ((n : Rat) / ((2 : Int) : Rat)) = Lib.itoa n ++ [47, 50] := by
  have e : (n : Rat) / ((2 : Int) : Rat) = mkRat n 2 := by
    rw [← Rat.divInt_eq_div]
    exact Rat.divInt_ofNat n 2
  have hg : Nat.gcd 2 n.natAbs = 1 := by
    rw [Nat.gcd_rec, h]
    exact Nat.gcd_one_left 2
  have e1 : (mkRat n 2).num = n := by rw [Rat.num_mkRat, if_neg (by decide), hg]; simp
  have e2 : (mkRat n 2).den = 2 := by rw [Rat.den_mkRat, if_neg (by decide), hg]
  rw [e]
  unfold canon
  rw [e1, e2, rs_of (by decide)]
  have : Lib.itoa ((2 : Nat) : Int) = [50] := by
    rw [itoa_pos' (by decide)]
    exact dec_small (by decide)
  rw [this]
theorem itoa_ofNat (u : Nat) : Lib.itoa (Int.ofNat u) = Lib.decDigits u := by
  rw [itoa_pos' (by simp)]; rfl
theorem itoa_negSucc (u : Nat) : Lib.itoa (Int.negSucc u) = 45 :: Lib.decDigits (u + 1) := by
  rw [itoa_neg' (Int.negSucc_lt_zero u)]; rfl
theorem halfK_eq (n : Int) (h : n.natAbs < 1000) : halfK n = canon ((n : Rat) / ((2 : Int) : Rat)) := by
  cases n with
  | ofNat u =>
    have h : u < 1000 := h
    show cond (Nat.beq (u % 2) 0) (digK (u / 2)) (digK u ++ [47, 50]) = _
    by_cases h2 : u % 2 = 0
    · rw [show Nat.beq (u % 2) 0 = true from by rw [h2]; rfl, cond_true, show (Int.ofNat u) = 2 * (Int.ofNat (u / 2)) from by simp only [Int.ofNat_eq_natCast]; omega, half_even, canon_int, itoa_ofNat, digK_eq (by omega)]
    · rw [nbeq_false h2, cond_false, canon_odd _ (by show u % 2 = 1; omega), itoa_ofNat, digK_eq h]
  | negSucc u =>
    have h : u + 1 < 1000 := h
    show cond (Nat.beq ((u + 1) % 2) 0) (45 :: digK ((u + 1) / 2)) (45 :: (digK (u + 1) ++ [47, 50])) = _
    by_cases h2 : (u + 1) % 2 = 0
    · have e : (Int.negSucc u) = 2 * (Int.negSucc ((u + 1) / 2 - 1)) := by omega
      rw [show Nat.beq ((u + 1) % 2) 0 = true from by rw [h2]; rfl, cond_true, e, half_even, canon_int, itoa_negSucc, show (u + 1) / 2 - 1 + 1 = (u + 1) / 2 from by omega, digK_eq (by omega)]
    · rw [nbeq_false h2, cond_false, canon_odd _ (by show (u + 1) % 2 = 1; omega), itoa_negSucc, digK_eq h]; rfl

/-- Of(n, 2) for each second n from k on -/
def ofRows : Nat → Int → List (List V × V)
  | 0, _ => []
  | m + 1, k => ([.int .i64 k, .int .i64 2], .tup [.str (halfK k), .int .i64 0]) :: ofRows m (k + 2)
theorem ofRows_mem : ∀ (m : Nat) (k n : Int), k ≤ n → n < k + 2 * m → (n - k) % 2 = 0 → ([.int .i64 n, .int .i64 2], .tup [.str (halfK n), .int .i64 0]) ∈ ofRows m k
  | 0, k, n, h1, h2, _ => by omega
  | m + 1, k, n, h1, h2, h3 => by
    by_cases h : n = k
    · subst h; exact List.mem_cons_self ..
    · exact List.mem_cons_of_mem _ (ofRows_mem m (k + 2) n (by omega) (by omega) (by omega))
theorem ofRows_two {w0 : Base} (hF : FnOk tb0 Tryz.prog w0) {n k : Int} (hk : chkF tb0 10000 60 6 (ofRows 16 k) = true) (h1 : k ≤ n) (h2 : n < k + 32) (h3 : (n - k) % 2 = 0) : Contract Tryz.prog w0 6 [.int .i64 n, .int .i64 2] (.tup [.str (halfK n), .int .i64 0]) :=
  chkF_ok tabOk hF hk _ (ofRows_mem 16 k n h1 (by omega) h3)
/-- what Of makes of an int of eight bits and 2 -/
def OfOk (w0 : Base) : Prop := ∀ n : Int, -128 ≤ n → n < 128 → Contract Tryz.prog w0 6 [.int .i64 n, .int .i64 2] (.tup [.str (halfK n), .int .i64 0])
end Go.Proofs.YtobknfkobcbnoaaGreatDoor
