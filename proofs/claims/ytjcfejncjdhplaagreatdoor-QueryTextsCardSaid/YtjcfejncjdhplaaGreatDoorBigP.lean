/-
  Numbers in pieces: difference and product (klippe/integer).
-/
import Derived.Test.YtjcfejncjdhplaaGreatDoorWkQuick
import Derived.Lib.AtoiTie
import Derived.Lib.ParseIntBCases
import Derived.OwnWalk
import Derived.Laws.OwnMore
set_option linter.unusedSectionVars false
set_option linter.unusedVariables false
set_option linter.unusedSimpArgs false
namespace Klp
open Go Go.Lib
def pv (B : Int) : List Int → Int
  | [] => 0
  | x :: l => x + B * pv B l
def Dg (B : Int) (l : List Int) : Prop := ∀ x ∈ l, 0 ≤ x ∧ x < B
def Pc (B : Int) (l : List Int) : Prop := Dg B l ∧ ∀ x, l.getLast? = some x → x ≠ 0
theorem ipow_pos {B : Int} (h : 0 < B) : ∀ n : Nat, 0 < B ^ n
  | 0 => by simp
  | n + 1 => by rw [Int.pow_succ]; exact Int.mul_pos (ipow_pos h n) h
theorem ipow_le {B : Int} (h : 0 < B) {m n : Nat} (hmn : m ≤ n) : B ^ m ≤ B ^ n := by
  obtain ⟨k, rfl⟩ := Nat.le.dest hmn
  clear hmn
  induction k with
  | zero => exact Int.le_refl _
  | succ k ih =>
    rw [← Nat.add_assoc, Int.pow_succ]
    have hp := ipow_pos h (m + k)
    have : B ^ (m + k) * 1 ≤ B ^ (m + k) * B := Int.mul_le_mul_of_nonneg_left (by omega) (by omega)
    omega
theorem pv_append (B : Int) (l m : List Int) : pv B (l ++ m) = pv B l + B ^ l.length * pv B m := by
  induction l with
  | nil => simp [pv]
  | cons x l ih =>
    simp only [List.cons_append, pv, ih, List.length_cons, Int.pow_succ]
    grind
theorem pv_snoc (B : Int) (l : List Int) (x : Int) : pv B (l ++ [x]) = pv B l + B ^ l.length * x := by rw [pv_append]; simp [pv]
theorem Dg.nil (B : Int) : Dg B [] := fun _ h => by cases h
theorem Dg.cons {B x : Int} {l : List Int} (h0 : 0 ≤ x) (h1 : x < B) (h : Dg B l) : Dg B (x :: l) := fun y hy => by
  rcases List.mem_cons.1 hy with rfl | hy
  · exact ⟨h0, h1⟩
  · exact h y hy
theorem Dg.append {B : Int} {l m : List Int} (h : Dg B l) (h' : Dg B m) : Dg B (l ++ m) := fun y hy => by
  rcases List.mem_append.1 hy with hy | hy
  · exact h y hy
  · exact h' y hy
theorem Dg.snoc {B x : Int} {l : List Int} (h : Dg B l) (h0 : 0 ≤ x) (h1 : x < B) : Dg B (l ++ [x]) := h.append (Dg.cons h0 h1 (Dg.nil B))
theorem Dg.left {B : Int} {l m : List Int} (h : Dg B (l ++ m)) : Dg B l := fun y hy => h y (List.mem_append_left _ hy)
theorem Dg.right {B : Int} {l m : List Int} (h : Dg B (l ++ m)) : Dg B m := fun y hy => h y (List.mem_append_right _ hy)
theorem Dg.take {B : Int} {l : List Int} (h : Dg B l) (n : Nat) : Dg B (l.take n) := fun y hy => h y (List.mem_of_mem_take hy)
theorem Dg.drop {B : Int} {l : List Int} (h : Dg B l) (n : Nat) : Dg B (l.drop n) := fun y hy => h y (List.mem_of_mem_drop hy)
theorem Dg.at {B : Int} {l : List Int} (h : Dg B l) {i : Nat} (hi : i < l.length) : 0 ≤ l[i] ∧ l[i] < B := h _ (List.getElem_mem hi)
theorem Dg.set {B x : Int} {l : List Int} (h : Dg B l) (i : Nat) (h0 : 0 ≤ x) (h1 : x < B) : Dg B (l.set i x) := fun y hy => by
  rcases List.mem_or_eq_of_mem_set hy with hy | rfl
  · exact h y hy
  · exact ⟨h0, h1⟩
theorem pv_nn {B : Int} (hB : 0 < B) : ∀ {l : List Int}, Dg B l → 0 ≤ pv B l
  | [], _ => Int.le_refl 0
  | x :: l, h => by
    have h1 := (h x (List.mem_cons_self ..)).1
    have h2 := pv_nn hB (l := l) fun y hy => h y (List.mem_cons_of_mem _ hy)
    have h3 := Int.mul_nonneg (Int.le_of_lt hB) h2
    show 0 ≤ x + B * pv B l
    omega
theorem pv_lt {B : Int} (hB : 0 < B) : ∀ {l : List Int}, Dg B l → pv B l < B ^ l.length
  | [], _ => by simp [pv]
  | x :: l, h => by
    have h1 := (h x (List.mem_cons_self ..)).2
    have h2 : pv B l + 1 ≤ B ^ l.length := pv_lt hB (l := l) fun y hy => h y (List.mem_cons_of_mem _ hy)
    have h3 := Int.mul_le_mul_of_nonneg_left h2 (Int.le_of_lt hB)
    rw [Int.mul_add, Int.mul_one] at h3
    show x + B * pv B l < B ^ (l.length + 1)
    rw [Int.pow_succ, Int.mul_comm (B ^ l.length)]
    omega
theorem Pc.nil (B : Int) : Pc B [] := ⟨Dg.nil B, fun x h => by cases h⟩
theorem Pc.snoc {B x : Int} {l : List Int} (h : Dg B l) (h0 : 0 < x) (h1 : x < B) : Pc B (l ++ [x]) :=
  ⟨h.snoc (by omega) h1, fun y hy => by simp at hy; omega⟩
theorem Pc.last {B : Int} {l : List Int} (h : Pc B l) (hl : 0 < l.length) : 0 < l[l.length - 1] := by
  have h1 : l.getLast? = some l[l.length - 1] := by rw [List.getLast?_eq_getElem?, List.getElem?_eq_getElem (by omega)]
  have h2 := h.2 _ h1
  have h3 := (h.1.at (i := l.length - 1) (by omega)).1
  omega
theorem take_snoc {α : Type} (l : List α) (k : Nat) (h : k < l.length) : l.take (k + 1) = l.take k ++ [l[k]] := by
  rw [List.take_add_one, List.getElem?_eq_getElem h]; rfl
theorem part_at {α : Type} (l : List α) (i : Nat) (h : i < l.length) : l = l.take i ++ l[i] :: l.drop (i + 1) := by
  rw [← List.drop_eq_getElem_cons h]; exact (List.take_append_drop i l).symm
theorem pv_part (B : Int) (l : List Int) (i : Nat) (h : i < l.length) : pv B l = pv B (l.take i) + B ^ i * (l[i] + B * pv B (l.drop (i + 1))) := by
  conv => lhs; rw [part_at l i h]
  rw [pv_append, List.length_take, Nat.min_eq_left (by omega)]
  rfl
theorem pv_take_succ (B : Int) (l : List Int) (k : Nat) (h : k < l.length) : pv B (l.take (k + 1)) = pv B (l.take k) + B ^ k * l[k] := by
  rw [take_snoc l k h, pv_snoc, List.length_take, Nat.min_eq_left (by omega)]
theorem pv_drop (B : Int) (l : List Int) (k : Nat) (h : k < l.length) : pv B (l.drop k) = l[k] + B * pv B (l.drop (k + 1)) := by
  rw [List.drop_eq_getElem_cons h]; rfl
theorem pv_set (B : Int) (l : List Int) (i : Nat) (v : Int) (h : i < l.length) : pv B (l.set i v) = pv B l + B ^ i * (v - l[i]) := by
  have h' : i < (l.set i v).length := by rw [List.length_set]; exact h
  rw [pv_part B (l.set i v) i h', pv_part B l i h, List.getElem_set_self, List.take_set_of_le (Nat.le_refl i), List.drop_set_of_lt (by omega)]
  grind
theorem Pc.ge {B : Int} (hB : 0 < B) {l : List Int} (h : Pc B l) (hl : 0 < l.length) : B ^ (l.length - 1) ≤ pv B l := by
  have h1 := h.last hl
  have h2 := pv_part B l (l.length - 1) (by omega)
  have h3 := pv_nn hB (h.1.take (l.length - 1))
  have h4 : l.drop (l.length - 1 + 1) = [] := by apply List.drop_eq_nil_of_le; omega
  rw [h4] at h2
  have h5 : B ^ (l.length - 1) * 1 ≤ B ^ (l.length - 1) * (l[l.length - 1] + B * pv B []) := Int.mul_le_mul_of_nonneg_left (by show 1 ≤ _ + B * 0; omega) (Int.le_of_lt (ipow_pos hB _))
  omega
theorem Pc.zero {B : Int} (hB : 0 < B) {l : List Int} (h : Pc B l) (h0 : pv B l = 0) : l = [] := by
  cases l with
  | nil => rfl
  | cons x l =>
    have := h.ge hB (by simp)
    have := ipow_pos hB ((x :: l).length - 1)
    omega
theorem Pc.len_lt {B : Int} (hB : 0 < B) {a b : List Int} (ha : Pc B a) (hb : Pc B b) (h : a.length < b.length) : pv B a < pv B b := by
  have h1 := pv_lt hB ha.1
  have h2 := hb.ge hB (by omega)
  have h3 : B ^ a.length ≤ B ^ (b.length - 1) := ipow_le hB (by omega)
  omega
theorem Pc.len_le {B : Int} (hB : 0 < B) {a b : List Int} (ha : Pc B a) (hb : Pc B b) (h : pv B a ≤ pv B b) : a.length ≤ b.length := by
  rcases Nat.lt_or_ge b.length a.length with h' | h'
  · have := hb.len_lt hB ha h'; omega
  · exact h'
theorem pv_top_lt {B : Int} (hB : 0 < B) {a b : List Int} (ha : Dg B a) (hb : Dg B b) (hl : a.length = b.length) (i : Nat) (hi : i < a.length) (hi' : i < b.length) (hd : a.drop (i + 1) = b.drop (i + 1)) (hx : a[i] < b[i]) : pv B a < pv B b := by
  rw [pv_part B a i hi, pv_part B b i hi', hd]
  have h1 := pv_lt hB (ha.take i)
  rw [List.length_take, Nat.min_eq_left (by omega)] at h1
  have h2 := pv_nn hB (hb.take i)
  have h3 : B ^ i * (a[i] + B * pv B (b.drop (i + 1)) + 1) ≤ B ^ i * (b[i] + B * pv B (b.drop (i + 1))) := Int.mul_le_mul_of_nonneg_left (by omega) (Int.le_of_lt (ipow_pos hB _))
  rw [Int.mul_add, Int.mul_one] at h3
  omega
theorem drop_step {a b : List Int} {i : Nat} (hi : i < a.length) (hi' : i < b.length) (hd : a.drop (i + 1) = b.drop (i + 1)) (hx : a[i] = b[i]) : a.drop i = b.drop i := by
  rw [List.drop_eq_getElem_cons hi, List.drop_eq_getElem_cons hi', hd, hx]
theorem trim_step {B : Int} {l : List Int} {k : Nat} (h : k < l.length) (h0 : l[k] = 0) : pv B (l.take (k + 1)) = pv B (l.take k) := by
  rw [pv_take_succ B l k h, h0]; simp
theorem Pc.of_take {B : Int} {l : List Int} (h : Dg B l) (k : Nat) (hk : k ≤ l.length) (h0 : ∀ j, j + 1 = k → ∀ hj : j < l.length, l[j] ≠ 0) : Pc B (l.take k) := by
  refine ⟨h.take k, fun x hx => ?_⟩
  rw [List.getLast?_eq_getElem?, List.length_take, Nat.min_eq_left hk] at hx
  cases k with
  | zero => simp at hx
  | succ j =>
    have hj : j < l.length := by omega
    rw [Nat.add_sub_cancel, List.getElem?_take_of_lt (by omega), List.getElem?_eq_getElem hj] at hx
    cases hx
    exact h0 j rfl hj
theorem mul_step {B : Int} (hB : 0 < B) {o : List Int} {j : Nat} (hj : j < o.length) {t : Int} : pv B (o.set j (t % B)) + t / B * B ^ (j + 1) = pv B o + B ^ j * (t - o[j]) := by
  rw [pv_set B o j _ hj, Int.pow_succ]
  have h := Int.emod_add_mul_ediv t B
  grind
theorem carry_lt {B c z x y : Int} (hB : 0 < B) (hc : 0 ≤ c) (hc' : c < B) (hz : 0 ≤ z) (hz' : z < B) (hx : 0 ≤ x) (hx' : x < B) (hy : 0 ≤ y) (hy' : y < B) : 0 ≤ c + (z + x * y) ∧ c + (z + x * y) < B * B := by
  have h1 : 0 ≤ x * y := Int.mul_nonneg hx hy
  have h2 : x * y ≤ (B - 1) * (B - 1) := Int.mul_le_mul (by omega) (by omega) hy (by omega)
  have h3 : (B - 1) * (B - 1) = B * B - 2 * B + 1 := by grind
  constructor <;> omega
theorem div_lt_base {B t : Int} (hB : 0 < B) (h0 : 0 ≤ t) (h : t < B * B) : 0 ≤ t / B ∧ t / B < B :=
  ⟨Int.ediv_nonneg h0 (by omega), Int.ediv_lt_of_lt_mul hB h⟩
theorem carry_end {B : Int} (hB : 0 < B) {o : List Int} (ho : Dg B o) {c X : Int} {j n : Nat} (h : pv B o + c * B ^ j = X) (hX : X < B ^ n) (hc : 0 < c) : j < n := by
  rcases Nat.lt_or_ge j n with h' | h'
  · exact h'
  · exfalso
    have h1 := pv_nn hB ho
    have h2 : B ^ n ≤ B ^ j := ipow_le hB h'
    have h3 : 1 * B ^ j ≤ c * B ^ j := Int.mul_le_mul_of_nonneg_right (by omega) (Int.le_of_lt (ipow_pos hB _))
    omega
theorem guess_ge {B r b d top t L : Int} (hL : 0 < L) (ht : 0 ≤ t) (htop : 0 < top) (h1 : r < (d + 1) * L) (h2 : top * L ≤ b) (h3 : t * b ≤ r) : t ≤ d / top := by
  have h4 : t * (top * L) ≤ t * b := Int.mul_le_mul_of_nonneg_left h2 ht
  have h5 : (t * top) * L < (d + 1) * L := by
    have : (t * top) * L = t * (top * L) := by grind
    omega
  have h6 : t * top < d + 1 := by
    rcases Int.lt_or_le (t * top) (d + 1) with h | h
    · exact h
    · have := Int.mul_le_mul_of_nonneg_right h (Int.le_of_lt hL); omega
  exact Int.le_ediv_of_mul_le htop (by omega)
theorem pv_below_top {B : Int} (hB : 0 < B) {l : List Int} (h : Dg B l) {m : Nat} (hm : m < l.length) (hm1 : l.length = m + 1) : pv B l < (l[m] + 1) * B ^ m ∧ l[m] * B ^ m ≤ pv B l := by
  have h2 := pv_part B l m hm
  have h4 : l.drop (m + 1) = [] := by apply List.drop_eq_nil_of_le; omega
  rw [h4] at h2
  have h3 := pv_nn hB (h.take m)
  have h5 := pv_lt hB (h.take m)
  rw [List.length_take, Nat.min_eq_left (by omega)] at h5
  have h6 : pv B l = pv B (l.take m) + B ^ m * l[m] := by rw [h2]; simp [pv]
  have h7 : (l[m] + 1) * B ^ m = B ^ m * l[m] + B ^ m := by grind
  have h8 : l[m] * B ^ m = B ^ m * l[m] := Int.mul_comm ..
  omega
theorem pv_below_two {B : Int} (hB : 0 < B) {l : List Int} (h : Dg B l) {m : Nat} (hm : m + 1 < l.length) (hm1 : l.length = m + 2) : pv B l < (l[m + 1] * B + l[m] + 1) * B ^ m := by
  have h2 := pv_part B l m (by omega)
  have h4 : l.drop (m + 1) = [l[m + 1]] := by
    rw [List.drop_eq_getElem_cons hm, List.drop_eq_nil_of_le (by omega)]
  rw [h4] at h2
  have h5 := pv_lt hB (h.take m)
  rw [List.length_take, Nat.min_eq_left (by omega)] at h5
  have h6 : pv B l = pv B (l.take m) + B ^ m * (l[m] + B * l[m + 1]) := by rw [h2]; simp [pv]
  have h7 : (l[m + 1] * B + l[m] + 1) * B ^ m = B ^ m * (l[m] + B * l[m + 1]) + B ^ m := by grind
  omega
end Klp
namespace Klp
open Go Go.Lib
theorem snoc_ind {α : Type} {p : List α → Prop} (nil : p []) (snoc : ∀ l x, p l → p (l ++ [x])) (l : List α) : p l := by
  have h : ∀ n, ∀ l : List α, l.length = n → p l := by
    intro n
    induction n with
    | zero => intro l h; rw [List.eq_nil_of_length_eq_zero h]; exact nil
    | succ n ih =>
      intro l h
      have hne : l ≠ [] := by rintro rfl; simp at h
      rw [← List.dropLast_concat_getLast hne]
      exact snoc _ _ (ih _ (by rw [List.length_dropLast, h]; rfl))
  exact h _ l rfl
def pad : Nat → Nat → List UInt8
  | 0, _ => []
  | k + 1, x => pad k (x / 10) ++ [UInt8.ofNat (48 + x % 10)]
theorem pad_len : ∀ k x, (pad k x).length = k
  | 0, _ => rfl
  | k + 1, x => by rw [pad, List.length_append, pad_len k]; rfl
theorem dec_pad : ∀ (k h x : Nat), 0 < h → x < 10 ^ k → decDigits (h * 10 ^ k + x) = decDigits h ++ pad k x
  | 0, h, x, h0, hx => by
    have : x = 0 := by simp at hx; omega
    subst this; simp [pad]
  | k + 1, h, x, h0, hx => by
    rw [Nat.pow_succ] at hx
    have hp : 0 < 10 ^ k := Nat.pow_pos (by omega)
    have e : h * 10 ^ (k + 1) + x = (h * 10 ^ k) * 10 + x := by rw [Nat.pow_succ, Nat.mul_assoc]
    have h1 : 1 * 1 ≤ h * 10 ^ k := Nat.mul_le_mul h0 hp
    have e1 : ((h * 10 ^ k) * 10 + x) / 10 = h * 10 ^ k + x / 10 := by omega
    have e2 : ((h * 10 ^ k) * 10 + x) % 10 = x % 10 := by omega
    rw [e, dec_big (by omega), e1, e2, dec_pad k h (x / 10) h0 (by omega), pad, List.append_assoc]
theorem pad_zero : ∀ k, pad k 0 = List.replicate k 48
  | 0 => rfl
  | k + 1 => by rw [pad, Nat.zero_div, pad_zero k, List.replicate_succ']; rfl
theorem pad_eq : ∀ (k x : Nat), 1 ≤ k → x < 10 ^ k → pad k x = List.replicate (k - (decDigits x).length) 48 ++ decDigits x
  | 0, _, h, _ => by omega
  | k + 1, x, _, hx => by
    rw [Nat.pow_succ] at hx
    by_cases h : x < 10
    · rw [pad, dec_small h, show x / 10 = 0 from by omega, pad_zero, show x % 10 = x from by omega]; rfl
    · have hk : 1 ≤ k := by
        rcases Nat.eq_zero_or_pos k with rfl | hk
        · simp at hx; omega
        · exact hk
      have ih := pad_eq k (x / 10) hk (by omega)
      rw [pad, ih, dec_big h, List.length_append, List.append_assoc]
      congr 2
      simp
theorem dec_one_pad (k x : Nat) (hx : x < 10 ^ k) : decDigits (10 ^ k + x) = 49 :: pad k x := by
  have := dec_pad k 1 x (by omega) hx
  rw [Nat.one_mul] at this
  rw [this, dec_small (by omega)]
  rfl
theorem dval_append (a b : List UInt8) : dval (a ++ b) = dval a * 10 ^ b.length + dval b := by
  induction b using snoc_ind with
  | nil => simp [dval]
  | snoc b c ih =>
    rw [← List.append_assoc, dval_snoc, dval_snoc, ih, List.length_append, List.length_singleton, Int.pow_succ]
    grind
theorem dval_digs {l : List UInt8} (h : ∀ c ∈ l, isDig c) : 0 ≤ dval l ∧ dval l < 10 ^ l.length := by
  induction l using snoc_ind with
  | nil => simp [dval]
  | snoc l c ih =>
    have hc := h c (by simp)
    unfold isDig at hc
    have ih := ih fun x hx => h x (by simp [hx])
    rw [dval_snoc, List.length_append, List.length_singleton, Int.pow_succ]
    omega
theorem decNat_digs {l : List UInt8} (h : ∀ c ∈ l, isDig c) (hl : l ≠ []) : decNat l = some (dval l).toNat := by
  unfold decNat
  rw [if_neg (by simpa using hl), dval_nn l 0 h (Int.le_refl 0) 0]
  have h1 := fold_cast l 0 h
  have h3 : ((0 : Nat) : Int) = 0 := rfl
  rw [h3] at h1
  rw [Option.some.injEq]
  unfold dval
  rw [← h1]
  rfl
theorem parse_digs {l : List UInt8} (h : ∀ c ∈ l, isDig c) (hl : l ≠ []) (h18 : l.length ≤ 18) : parseUintB 64 l = .ok (dval l).toNat := by
  rw [parseUintB_64, parseMag_short l h18, decNat_digs h hl]; rfl
theorem dec_of_digs {l : List UInt8} (h : ∀ c ∈ l, isDig c) (hl : l ≠ []) (hz : ∀ c r, l = c :: r → r ≠ [] → c.toNat ≠ 48) : decDigits (dval l).toNat = l := by
  induction l using snoc_ind with
  | nil => exact absurd rfl hl
  | snoc l c ih =>
    have hc := h c (by simp)
    unfold isDig at hc
    have hb := dval_digs (l := l) fun x hx => h x (by simp [hx])
    rw [dval_snoc]
    by_cases h0 : l = []
    · subst h0
      have e : (10 * dval [] + ((c.toNat : Int) - 48)).toNat = c.toNat - 48 := by simp only [dval, List.foldl_nil]; omega
      rw [e, dec_small (by omega), List.nil_append]
      congr 1
      rw [show 48 + (c.toNat - 48) = c.toNat from by omega]
      exact UInt8.ofNat_toNat
    · have ih := ih (fun x hx => h x (by simp [hx])) h0 fun d r e hr => hz d (r ++ [c]) (by rw [e]; rfl) (by simp)
      have hpos : 0 < dval l := by
        obtain ⟨d, r, rfl⟩ : ∃ d r, l = d :: r := by
          cases l with
          | nil => exact absurd rfl h0
          | cons d r => exact ⟨d, r, rfl⟩
        have hd := h d (by simp)
        unfold isDig at hd
        have hd0 := hz d (r ++ [c]) rfl (by simp)
        have hr := dval_digs (l := r) fun x hx => h x (by simp [hx])
        have e := dval_append [d] r
        have e1 : dval [d] = (d.toNat : Int) - 48 := by simp [dval]
        have hp : (0 : Int) < 10 ^ r.length := ipow_pos (by omega) _
        have h5 : 1 * (10 : Int) ^ r.length ≤ dval [d] * 10 ^ r.length := Int.mul_le_mul_of_nonneg_right (by omega) (Int.le_of_lt hp)
        rw [show d :: r = [d] ++ r from rfl, e]
        omega
      have e : (10 * dval l + ((c.toNat : Int) - 48)).toNat = 10 * (dval l).toNat + (c.toNat - 48) := by omega
      rw [e, dec_big (by omega), show (10 * (dval l).toNat + (c.toNat - 48)) / 10 = (dval l).toNat from by omega, ih, show (10 * (dval l).toNat + (c.toNat - 48)) % 10 = c.toNat - 48 from by omega, show 48 + (c.toNat - 48) = c.toNat from by omega]
      congr 1
      rw [UInt8.ofNat_toNat]
theorem dec_piece {B : Int} {k : Nat} (hB : B = 10 ^ k) {l : List Int} {i : Nat} (h : i < l.length) (hd : Dg B l) (hp : 0 < pv B (l.drop (i + 1))) :
    decDigits (pv B (l.drop i)).toNat = decDigits (pv B (l.drop (i + 1))).toNat ++ pad k l[i].toNat := by
  have h1 := hd.at h
  rw [pv_drop B l i h]
  have hx : l[i].toNat < 10 ^ k := by
    have : ((l[i].toNat : Nat) : Int) < ((10 ^ k : Nat) : Int) := by
      rw [Int.toNat_of_nonneg h1.1]; push_cast; rw [← hB]; exact h1.2
    exact Int.ofNat_lt.1 this
  rw [← dec_pad k _ _ (by omega) hx]
  congr 1
  have e : (((pv B (l.drop (i + 1))).toNat * 10 ^ k + l[i].toNat : Nat) : Int) = l[i] + B * pv B (l.drop (i + 1)) := by
    push_cast
    rw [Int.toNat_of_nonneg h1.1, Int.toNat_of_nonneg (by omega), ← hB]
    grind
  omega
end Klp
namespace Klp
open Go Go.Lib
def digB (c : UInt8) : Bool := decide (48 ≤ c.toNat) && decide (c.toNat ≤ 57)
theorem digB_iff (c : UInt8) : digB c = true ↔ isDig c := by simp [digB, isDig]
def splM : List UInt8 → Bool × List UInt8
  | [] => (false, [])
  | c :: r => if c = 45 then (true, r) else (false, c :: r)
def canB (m : Bool) (t : List UInt8) : Bool := t.all digB && !(t.isEmpty || (t.headD 0 == 48 && (m || decide (1 < t.length))))
def chk (s : List UInt8) : Bool := canB (splM s).1 (splM s).2 && decide ((splM s).2.length ≤ 200)
theorem chk_is {s : List UInt8} (h : chk s = true) : ∃ n : Int, s = itoa n ∧ (decDigits n.natAbs).length ≤ 200 := by
  unfold chk canB at h
  rw [Bool.and_eq_true, Bool.and_eq_true, decide_eq_true_iff] at h
  obtain ⟨⟨h1, h2⟩, h3⟩ := h
  have hd : ∀ c ∈ (splM s).2, isDig c := fun c hc => (digB_iff c).1 (List.all_eq_true.1 h1 c hc)
  generalize hm : (splM s).1 = m at *
  generalize ht : (splM s).2 = t at *
  have hne : t ≠ [] := by rintro rfl; simp at h2
  have hz : ∀ c r, t = c :: r → r ≠ [] → c.toNat ≠ 48 := by
    rintro c r rfl hr e
    have : c = 48 := by rw [← UInt8.toNat_inj]; exact e
    subst this
    cases r with
    | nil => exact hr rfl
    | cons a b => simp at h2
  have e1 := dec_of_digs hd hne hz
  have hv := (dval_digs hd).1
  cases s with
  | nil => simp [splM] at ht; exact absurd ht hne
  | cons c r =>
    by_cases hc : c = 45
    · subst hc
      simp [splM] at hm ht
      subst hm ht
      have hp : 0 < dval r := by
        rcases Int.lt_or_le 0 (dval r) with h | h
        · exact h
        · exfalso
          have h0 : dval r = 0 := by omega
          rw [h0] at e1
          have e2 : r = [48] := by rw [← e1]; exact dec_zero
          subst e2
          simp at h2
      refine ⟨-dval r, ?_, ?_⟩
      · rw [itoa_neg' (by omega), show (-dval r).natAbs = (dval r).toNat from by omega, e1]
      · rw [show (-dval r).natAbs = (dval r).toNat from by omega, e1]; exact h3
    · have e3 : splM (c :: r) = (false, c :: r) := by simp [splM, hc]
      rw [e3] at hm ht
      simp only at hm ht
      subst hm ht
      refine ⟨dval (c :: r), ?_, ?_⟩
      · rw [itoa_pos' (by omega), show (dval (c :: r)).natAbs = (dval (c :: r)).toNat from by omega, e1]
      · rw [show (dval (c :: r)).natAbs = (dval (c :: r)).toNat from by omega, e1]; exact h3
def ival (s : List UInt8) : Int := if (splM s).1 then -dval (splM s).2 else dval (splM s).2
theorem splM_itoa (n : Int) : splM (itoa n) = (decide (n < 0), decDigits n.natAbs) := by
  by_cases h : n < 0
  · rw [itoa_neg' h, decide_eq_true h]; simp [splM]
  · rw [itoa_pos' h, decide_eq_false h]
    have hp := dec_pos n.natAbs
    cases hd : decDigits n.natAbs with
    | nil => rw [hd] at hp; simp at hp
    | cons c r =>
      have hc := dec_dig n.natAbs c (by rw [hd]; simp)
      have : c ≠ 45 := by rintro rfl; unfold isDig at hc; simp at hc
      simp [splM, this]
theorem ival_itoa (n : Int) : ival (itoa n) = n := by
  unfold ival
  rw [splM_itoa]
  by_cases h : n < 0
  · simp [h, dec_val]; omega
  · simp [h, dec_val]; omega
def qchk (p q : List UInt8) : Bool := chk p && chk q && decide (1 < ival q) && decide (ival p ≠ 0) && decide (Int.gcd (ival p) (ival q) = 1)
def ratOk (s : List UInt8) : Bool := if indexByte s 47 < 0 then chk s else qchk (s.take (indexByte s 47).toNat) (s.drop ((indexByte s 47).toNat + 1))
end Klp
namespace Go.Proofs.YtjcfejncjdhplaaGreatDoor
open Go.RowKit Go Klp
def Sls (w : World) (k : IntKind) (v : Value) (l : List Int) : Prop :=
  ∃ (ao : Option Addr) (cap : Nat), v = .slice ao l.length cap ∧ l.length ≤ cap ∧ (ao = none → cap = 0) ∧ (0 < l.length → ∃ b o, ao = some ⟨b, o, none⟩ ∧ ∀ i (h : i < l.length), w.cell? ⟨b, o + i, none⟩ = some (.int k l[i]))
theorem Sls.kp {w w' : World} {k : IntKind} {v : Value} {l : List Int} (h : Sls w k v l) (hk : Kp w w') : Sls w' k v l := by
  obtain ⟨ao, cap, rfl, hc, hn, hx⟩ := h
  refine ⟨ao, cap, rfl, hc, hn, fun hl => ?_⟩
  obtain ⟨b, o, rfl, hcell⟩ := hx hl
  refine ⟨b, o, rfl, fun i hi => ?_⟩
  have h0 := hcell i hi
  exact (Below.cell hk (p := ⟨b, o + i, none⟩) (World.block_lt_of_cell? w _ h0)).trans h0
theorem Sls.nil (w : World) (k : IntKind) : Sls w k (.slice none 0 0) [] := ⟨none, 0, rfl, Nat.le_refl _, fun _ => rfl, fun h => absurd h (by simp)⟩
theorem Sls.own {w : World} {base e g n cap : Nat} {k : IntKind} {l : List Int} (h : w.ownsRow base e 1 (.slice (some ⟨g, 0, none⟩) n cap) n (l.map (Value.int k))) : Sls w k (.slice (some ⟨g, 0, none⟩) n cap) l := by
  have hl : l.length = n := by have := h.1; simpa using this
  subst hl
  have hcap : l.length ≤ cap := by
    rcases h.2 with ⟨h', _⟩ | ⟨g', cap', cur, h', _, _, hn, _⟩
    · cases h'
    · cases h'; exact hn
  refine ⟨_, cap, rfl, hcap, (fun e => by cases e), fun _ => ⟨g, 0, rfl, fun i hi => ?_⟩⟩
  rw [Nat.zero_add, h.cellAt i (by omega), List.getElem?_map, List.getElem?_eq_getElem hi]
  rfl
noncomputable def rdS (w : World) : Value → List Int
  | .slice (some a) n _ => (List.range n).map fun i => match w.cell? ⟨a.block, a.off + i, none⟩ with | some (.int _ z) => z | _ => 0
  | _ => []
theorem Sls.rd {w : World} {k : IntKind} {v : Value} {l : List Int} (h : Sls w k v l) : rdS w v = l := by
  obtain ⟨ao, cap, rfl, hc, _, hx⟩ := h
  by_cases hl : 0 < l.length
  · obtain ⟨b, o, rfl, hcell⟩ := hx hl
    unfold rdS
    apply List.ext_getElem
    · simp
    · intro i h1 h2
      simp only [List.getElem_map, List.getElem_range]
      rw [hcell i h2]
  · have : l = [] := by cases l with
      | nil => rfl
      | cons a l => simp at hl
    subst this
    cases ao <;> rfl
def lenV : Value → Nat
  | .slice _ n _ => n
  | _ => 0
def Pcs (w : World) (k : IntKind) (B : Int) (v : Value) (n : Int) : Prop := ∃ l, Sls w k v l ∧ Pc B l ∧ pv B l = n
theorem Pcs.kp {w w' : World} {k : IntKind} {B : Int} {v : Value} {n : Int} (h : Pcs w k B v n) (hk : Kp w w') : Pcs w' k B v n := by
  obtain ⟨l, h1, h2⟩ := h
  exact ⟨l, h1.kp hk, h2⟩
theorem Sls.take {w : World} {k : IntKind} {ao : Option Addr} {cap : Nat} {l : List Int} (h : Sls w k (.slice ao l.length cap) l) {n : Nat} (hn : n ≤ l.length) : Sls w k (.slice ao n cap) (l.take n) := by
  obtain ⟨ao', cap', e, hc, hnn, hx⟩ := h
  cases e
  have hl : (l.take n).length = n := by rw [List.length_take]; omega
  refine ⟨ao, cap, by rw [hl], by omega, hnn, fun h0 => ?_⟩
  obtain ⟨b, o, hb, hcell⟩ := hx (by omega)
  refine ⟨b, o, hb, fun i hi => ?_⟩
  rw [hcell i (by omega), List.getElem_take]
theorem Sls.cells {w w' : World} {k : IntKind} {b o n cap : Nat} {l : List Int} (h : Sls w k (.slice (some ⟨b, o, none⟩) n cap) l) (hk : Kp w w') {i : Nat} (hi : i < l.length) : w'.cell? ⟨b, o + i, none⟩ = some (.int k l[i]) := by
  obtain ⟨ao, cap', e, hc, _, hx⟩ := h.kp hk
  cases e
  obtain ⟨b', o', e', hcell⟩ := hx (by omega)
  cases e'
  exact hcell i hi
theorem Sls.addr {w : World} {k : IntKind} {ao : Option Addr} {n cap : Nat} {l : List Int} (h : Sls w k (.slice ao n cap) l) (hl : 0 < l.length) : ∃ b o, ao = some ⟨b, o, none⟩ := by
  obtain ⟨ao', cap', e, hc, _, hx⟩ := h
  cases e
  obtain ⟨b, o, e, _⟩ := hx hl
  exact ⟨b, o, e⟩
theorem Sls.val {w : World} {k : IntKind} {v : Value} {l : List Int} (h : Sls w k v l) : ∃ ao cap, v = .slice ao l.length cap ∧ l.length ≤ cap := by
  obtain ⟨ao, cap, e, hc, _⟩ := h
  exact ⟨ao, cap, e, hc⟩
theorem Sls.none {w : World} {k : IntKind} {n c : Nat} {l : List Int} (h : Sls w k (.slice none n c) l) : c = 0 := by
  obtain ⟨ao, cap, e, hc, hn, _⟩ := h
  cases e
  exact hn rfl
set_option maxHeartbeats 1000000 in
theorem trim_walk (l : List Int) (v : Value) (w : World) (hl : l.length ≤ 100000) (hD : Dg 1000000000 l) (h : Sls w .u64 v l) :
    Calls Tryz.prog 178 #[v] w fun e w' => ∃ v', e = .returned v' ∧ Pcs w' .u64 1000000000 v' (pv 1000000000 l) ∧ Kp w w' := by
  obtain ⟨ao, cap, rfl, hcap⟩ := h.val
  have HS := Lib.hid h; clear h
  have HD := Lib.hid hD; clear hD
  go_enter Tryz.func178, Tryz.ntmps178
  go_wp2_with fail
  go_loopw [0] (fun p wr => ∃ n, n ≤ l.length ∧ p = .slice ao n cap ∧ pv 1000000000 (l.take n) = pv 1000000000 l ∧ Kp w wr) (fun p _ => lenV p)
  case atStart => exact ⟨l.length, Nat.le_refl _, rfl, by rw [List.take_length], Kp.refl w⟩
  case round =>
    obtain ⟨n, hn, rfl, hv, hk⟩ := hrel
    have HV := Lib.hid hv; clear hv
    have HK := Lib.hid hk; clear hk
    cases n with
    | zero =>
      go_wp2_with fail
      go_ret
      exact ⟨_, rfl, ⟨l.take 0, (HS.out.take (Nat.zero_le _)).kp HK.out, Pc.of_take HD.out 0 (Nat.zero_le _) (fun j h => by omega), HV.out⟩, HK.out⟩
    | succ j =>
      obtain ⟨b, o, rfl⟩ := HS.out.addr (by omega)
      have hj := HS.out.cells HK.out (i := j) (by omega)
      by_cases hz : l[j] = 0
      · have hz' : (l[j] == 0) = true := by rw [hz]; rfl
        go_wp2_with fail
        go_roundw
        case rel => exact ⟨j, by omega, rfl, by rw [← trim_step (by omega) hz]; exact HV.out, HK.out⟩
        case measure => exact Nat.lt_succ_self j
      · have hz' : (l[j] == 0) = false := by simpa using hz
        go_wp2_with fail
        go_ret
        exact ⟨_, rfl, ⟨l.take (j + 1), (HS.out.take hn).kp HK.out, Pc.of_take HD.out _ hn (fun i h hi => by cases h; exact hz), HV.out⟩, HK.out⟩
set_option maxHeartbeats 1000000 in
theorem cut_walk (l : List Int) (v : Value) (w : World) (hl : l.length ≤ 100000000000000) (hD : Dg 10000 l) (h : Sls w .i64 v l) :
    Calls Tryz.prog 239 #[v] w fun e w' => ∃ v', e = .returned v' ∧ Pcs w' .i64 10000 v' (pv 10000 l) ∧ (∃ ao n n' c, v = .slice ao n c ∧ v' = .slice ao n' c) ∧ Kp w w' := by
  obtain ⟨ao, cap, rfl, hcap⟩ := h.val
  have HS := Lib.hid h; clear h
  have HD := Lib.hid hD; clear hD
  go_enter Tryz.func239, Tryz.ntmps239
  go_wp2_with fail
  go_loopw [0] (fun p wr => ∃ n, n ≤ l.length ∧ p = .slice ao n cap ∧ pv 10000 (l.take n) = pv 10000 l ∧ Kp w wr) (fun p _ => lenV p)
  case atStart => exact ⟨l.length, Nat.le_refl _, rfl, by rw [List.take_length], Kp.refl w⟩
  case round =>
    obtain ⟨n, hn, rfl, hv, hk⟩ := hrel
    have HV := Lib.hid hv; clear hv
    have HK := Lib.hid hk; clear hk
    cases n with
    | zero =>
      go_wp2_with fail
      go_ret
      exact ⟨_, rfl, ⟨l.take 0, (HS.out.take (Nat.zero_le _)).kp HK.out, Pc.of_take HD.out 0 (Nat.zero_le _) (fun j h => by omega), HV.out⟩, ⟨_, _, _, _, rfl, rfl⟩, HK.out⟩
    | succ j =>
      obtain ⟨b, o, rfl⟩ := HS.out.addr (by omega)
      have hj := HS.out.cells HK.out (i := j) (by omega)
      by_cases hz : l[j] = 0
      · have hz' : (l[j] == 0) = true := by rw [hz]; rfl
        go_wp2_with fail
        go_roundw
        case rel => exact ⟨j, by omega, rfl, by rw [← trim_step (by omega) hz]; exact HV.out, HK.out⟩
        case measure => exact Nat.lt_succ_self j
      · have hz' : (l[j] == 0) = false := by simpa using hz
        go_wp2_with fail
        go_ret
        exact ⟨_, rfl, ⟨l.take (j + 1), (HS.out.take hn).kp HK.out, Pc.of_take HD.out _ hn (fun i h hi => by cases h; exact hz), HV.out⟩, ⟨_, _, _, _, rfl, rfl⟩, HK.out⟩
set_option maxHeartbeats 1000000 in
theorem trim_take (l : List Int) (ao : Option Addr) (cap : Nat) (w : World) (hl : l.length ≤ 100000) (hD : Dg 1000000000 l) (h : Sls w .u64 (.slice ao l.length cap) l) :
    Calls Tryz.prog 178 #[.slice ao l.length cap] w fun e w' => ∃ m, m ≤ l.length ∧ e = .returned (.slice ao m cap) ∧ Pc 1000000000 (l.take m) ∧ pv 1000000000 (l.take m) = pv 1000000000 l ∧ Kp w w' := by
  obtain ⟨_, _, e, hcap⟩ := h.val
  cases e
  have HS := Lib.hid h; clear h
  have HD := Lib.hid hD; clear hD
  go_enter Tryz.func178, Tryz.ntmps178
  go_wp2_with fail
  go_loopw [0] (fun p wr => ∃ n, n ≤ l.length ∧ p = .slice ao n cap ∧ pv 1000000000 (l.take n) = pv 1000000000 l ∧ Kp w wr) (fun p _ => lenV p)
  case atStart => exact ⟨l.length, Nat.le_refl _, rfl, by rw [List.take_length], Kp.refl w⟩
  case round =>
    obtain ⟨n, hn, rfl, hv, hk⟩ := hrel
    have HV := Lib.hid hv; clear hv
    have HK := Lib.hid hk; clear hk
    cases n with
    | zero =>
      go_wp2_with fail
      go_ret
      exact ⟨0, Nat.zero_le _, rfl, Pc.of_take HD.out 0 (Nat.zero_le _) (fun j h => by omega), HV.out, HK.out⟩
    | succ j =>
      obtain ⟨b, o, rfl⟩ := HS.out.addr (by omega)
      have hj := HS.out.cells HK.out (i := j) (by omega)
      by_cases hz : l[j] = 0
      · have hz' : (l[j] == 0) = true := by rw [hz]; rfl
        go_wp2_with fail
        go_roundw
        case rel => exact ⟨j, by omega, rfl, by rw [← trim_step (by omega) hz]; exact HV.out, HK.out⟩
        case measure => exact Nat.lt_succ_self j
      · have hz' : (l[j] == 0) = false := by simpa using hz
        go_wp2_with fail
        go_ret
        exact ⟨j + 1, hn, rfl, Pc.of_take HD.out _ hn (fun i h hi => by cases h; exact hz), HV.out, HK.out⟩
end Go.Proofs.YtjcfejncjdhplaaGreatDoor
namespace Go.Proofs.YtjcfejncjdhplaaGreatDoor
open Go.RowKit Go Klp
theorem drop_all {α : Type} (l : List α) : l.drop l.length = [] := List.drop_eq_nil_of_le (Nat.le_refl _)
def sgn (a b : Int) : Int := if a < b then -1 else if b < a then 1 else 0
theorem sgn_lt {a b : Int} (h : a < b) : sgn a b = -1 := if_pos h
theorem sgn_gt {a b : Int} (h : b < a) : sgn a b = 1 := by unfold sgn; rw [if_neg (by omega), if_pos h]
theorem sgn_eq {a b : Int} (h : a = b) : sgn a b = 0 := by unfold sgn; rw [if_neg (by omega), if_neg (by omega)]
set_option maxHeartbeats 1000000 in
theorem order_walk (la lb : List Int) (va vb : Value) (w : World) (hl : la.length ≤ 100000) (hl' : lb.length ≤ 100000) (ha : Sls w .u64 va la) (hb : Sls w .u64 vb lb) (pa : Pc 1000000000 la) (pb : Pc 1000000000 lb) :
    Calls Tryz.prog 179 #[va, vb] w fun e w' => e = .returned (.int .i64 (sgn (pv 1000000000 la) (pv 1000000000 lb))) ∧ Kp w w' := by
  obtain ⟨aa, ca, rfl, hca⟩ := ha.val
  obtain ⟨ab, cb, rfl, hcb⟩ := hb.val
  have HA := Lib.hid ha; clear ha
  have HB := Lib.hid hb; clear hb
  have PA := Lib.hid pa; clear pa
  have PB := Lib.hid pb; clear pb
  by_cases hlen : la.length = lb.length
  · have hne : ((la.length : Int) == (lb.length : Int)) = true := by rw [hlen]; exact beq_self_eq_true _
    go_enter Tryz.func179, Tryz.ntmps179
    go_wp2_with fail
    go_loopw [4, 5] (fun r i wr => ∃ n : Nat, n ≤ la.length ∧ i = .int .i64 ((n : Int) - 1) ∧ r = .int .i64 0 ∧ la.drop n = lb.drop n ∧ Kp w wr) (fun _ i _ => (intOf i + 1).toNat)
    case atStart => exact ⟨la.length, Nat.le_refl _, by rw [hlen], rfl, by rw [drop_all, hlen, drop_all], Kp.refl w⟩
    case round =>
      obtain ⟨n, hn, rfl, rfl, hd, hk⟩ := hrel
      have HD := Lib.hid hd; clear hd
      have HK := Lib.hid hk; clear hk
      cases n with
      | zero =>
        go_wp2_with fail
        go_ret
        exact ⟨by rw [sgn_eq (by have := HD.out; simpa using congrArg (pv 1000000000) this)]; rfl, HK.out⟩
      | succ j =>
        obtain ⟨b, o, rfl⟩ := HA.out.addr (by omega)
        obtain ⟨b', o', rfl⟩ := HB.out.addr (by omega)
        have ga := HA.out.cells HK.out (i := j) (by omega)
        have gb := HB.out.cells HK.out (i := j) (by omega)
        have e1 : ((j + 1 : Nat) : Int) - 1 = (j : Int) := by omega
        rw [e1]
        by_cases hz : la[j] = lb[j]
        · have hz' : (la[j] == lb[j]) = true := by rw [hz]; exact beq_self_eq_true _
          go_wp2_with fail
          go_region
          all_goals go_wp2_with fail
          go_roundw
          case rel => exact ⟨j, by omega, rfl, rfl, drop_step (by omega) (by omega) HD.out hz, HK.out.then (Kp.drew _)⟩
          case measure => simp only [intOf]; omega
        · by_cases hlt : la[j] < lb[j]
          · have hz' : (la[j] == lb[j]) = false := by simpa using hz
            go_wp2_with fail
            go_region
            all_goals go_wp2_with fail
            go_region
            all_goals go_wp2_with fail
            go_ret
            exact ⟨by rw [sgn_lt (pv_top_lt (by omega) PA.out.1 PB.out.1 hlen j (by omega) (by omega) HD.out hlt)]; rfl, HK.out.then ((Kp.drew _).then (Kp.drew _))⟩
          · have hz' : (la[j] == lb[j]) = false := by simpa using hz
            go_wp2_with fail
            go_region
            all_goals go_wp2_with fail
            go_region
            all_goals go_wp2_with fail
            go_ret
            exact ⟨by rw [sgn_gt (pv_top_lt (by omega) PB.out.1 PA.out.1 hlen.symm j (by omega) (by omega) HD.out.symm (by omega))]; rfl, HK.out.then ((Kp.drew _).then (Kp.drew _))⟩
  · have hne : ((la.length : Int) == (lb.length : Int)) = false := by simp; omega
    by_cases h : la.length < lb.length
    · go_enter Tryz.func179, Tryz.ntmps179
      go_wp2_with fail
      go_ret
      exact ⟨by rw [sgn_lt (PA.out.len_lt (by omega) PB.out h)]; rfl, Kp.refl w⟩
    · go_enter Tryz.func179, Tryz.ntmps179
      go_wp2_with fail
      go_ret
      exact ⟨by rw [sgn_gt (PB.out.len_lt (by omega) PA.out (by omega))]; rfl, Kp.refl w⟩
set_option maxHeartbeats 1000000 in
theorem less_walk (la lb : List Int) (va vb : Value) (w : World) (hl : la.length ≤ 100000) (hl' : lb.length ≤ 100000) (ha : Sls w .i64 va la) (hb : Sls w .i64 vb lb) (pa : Pc 10000 la) (pb : Pc 10000 lb) :
    Calls Tryz.prog 237 #[va, vb] w fun e w' => e = .returned (.bool (decide (pv 10000 la < pv 10000 lb))) ∧ Kp w w' := by
  obtain ⟨aa, ca, rfl, hca⟩ := ha.val
  obtain ⟨ab, cb, rfl, hcb⟩ := hb.val
  have HA := Lib.hid ha; clear ha
  have HB := Lib.hid hb; clear hb
  have PA := Lib.hid pa; clear pa
  have PB := Lib.hid pb; clear pb
  by_cases hlen : la.length = lb.length
  · have hne : ((la.length : Int) == (lb.length : Int)) = true := by rw [hlen]; exact beq_self_eq_true _
    go_enter Tryz.func237, Tryz.ntmps237
    go_wp2_with fail
    go_loopw [4, 5] (fun r i wr => ∃ n : Nat, n ≤ la.length ∧ i = .int .i64 ((n : Int) - 1) ∧ r = .bool false ∧ la.drop n = lb.drop n ∧ Kp w wr) (fun _ i _ => (intOf i + 1).toNat)
    case atStart => exact ⟨la.length, Nat.le_refl _, by rw [hlen], rfl, by rw [drop_all, hlen, drop_all], Kp.refl w⟩
    case round =>
      obtain ⟨n, hn, rfl, rfl, hd, hk⟩ := hrel
      have HD := Lib.hid hd; clear hd
      have HK := Lib.hid hk; clear hk
      cases n with
      | zero =>
        go_wp2_with fail
        go_ret
        exact ⟨by rw [decide_eq_false (show ¬ pv 10000 la < pv 10000 lb by have := HD.out; have := congrArg (pv 10000) this; simp only [List.drop_zero] at this; omega)]; rfl, HK.out⟩
      | succ j =>
        obtain ⟨b, o, rfl⟩ := HA.out.addr (by omega)
        obtain ⟨b', o', rfl⟩ := HB.out.addr (by omega)
        have ga := HA.out.cells HK.out (i := j) (by omega)
        have gb := HB.out.cells HK.out (i := j) (by omega)
        have e1 : ((j + 1 : Nat) : Int) - 1 = (j : Int) := by omega
        rw [e1]
        by_cases hz : la[j] = lb[j]
        · have hz' : (la[j] == lb[j]) = true := by rw [hz]; exact beq_self_eq_true _
          go_wp2_with fail
          go_region
          all_goals go_wp2_with fail
          go_roundw
          case rel => exact ⟨j, by omega, rfl, rfl, drop_step (by omega) (by omega) HD.out hz, HK.out.then (Kp.drew _)⟩
          case measure => simp only [intOf]; omega
        · by_cases hlt : la[j] < lb[j]
          · have hz' : (la[j] == lb[j]) = false := by simpa using hz
            go_wp2_with fail
            go_region
            all_goals go_wp2_with fail
            go_region
            all_goals go_wp2_with fail
            go_ret
            exact ⟨by rw [decide_eq_true (show pv 10000 la < pv 10000 lb from pv_top_lt (by omega) PA.out.1 PB.out.1 hlen j (by omega) (by omega) HD.out hlt)]; rfl, HK.out.then ((Kp.drew _).then (Kp.drew _))⟩
          · have hz' : (la[j] == lb[j]) = false := by simpa using hz
            go_wp2_with fail
            go_region
            all_goals go_wp2_with fail
            go_region
            all_goals go_wp2_with fail
            go_ret
            exact ⟨congrArg (fun b => Ending.returned (Value.bool b)) (show decide (la[j] < lb[j]) = decide (pv 10000 la < pv 10000 lb) by
              have := pv_top_lt (B := 10000) (by omega) PB.out.1 PA.out.1 hlen.symm j (by omega) (by omega) HD.out.symm (by omega)
              rw [decide_eq_false (show ¬ la[j] < lb[j] by omega), decide_eq_false (show ¬ pv 10000 la < pv 10000 lb by omega)]), HK.out.then ((Kp.drew _).then (Kp.drew _))⟩
  · have hne : ((la.length : Int) == (lb.length : Int)) = false := by simp; omega
    by_cases h : la.length < lb.length
    · go_enter Tryz.func237, Tryz.ntmps237
      go_wp2_with fail
      go_ret
      exact ⟨by rw [decide_eq_true (show pv 10000 la < pv 10000 lb from PA.out.len_lt (by omega) PB.out h)]; rfl, Kp.refl w⟩
    · go_enter Tryz.func237, Tryz.ntmps237
      go_wp2_with fail
      go_ret
      exact ⟨by rw [decide_eq_false (show ¬ pv 10000 la < pv 10000 lb by have := PB.out.len_lt (by omega) PA.out (by omega); omega)]; rfl, Kp.refl w⟩
end Go.Proofs.YtjcfejncjdhplaaGreatDoor
namespace Go.Proofs.YtjcfejncjdhplaaGreatDoor
open Go.RowKit Go Klp
theorem infoU : (Tryz.prog.info? 271).map (fun i => (i.zero, i.size, i.bytes)) = some (some (.int .u64 0), 1, 8) := by kernel_rfl
theorem infoI : (Tryz.prog.info? 3).map (fun i => (i.zero, i.size, i.bytes)) = some (some (.int .i64 0), 1, 8) := by kernel_rfl
theorem sub_step {B : Int} {la lb lo : List Int} {i : Nat} (hi : i < la.length) (hlo : lo.length = i) {c c' x y : Int} (h : pv B lo = pv B (la.take i) - pv B (lb.take i) + c * B ^ i) (hy : y = c + lb.getD i 0) (hx : x = la[i] - y + c' * B) :
    pv B (lo ++ [x]) = pv B (la.take (i + 1)) - pv B (lb.take (i + 1)) + c' * B ^ (i + 1) := by
  rw [pv_snoc, pv_take_succ B la i hi, hlo, h, hx, hy, Int.pow_succ]
  have e : pv B (lb.take (i + 1)) = pv B (lb.take i) + B ^ i * lb.getD i 0 := by
    by_cases hb : i < lb.length
    · rw [pv_take_succ B lb i hb, List.getD_eq_getElem?_getD, List.getElem?_eq_getElem hb]; rfl
    · rw [List.getD_eq_getElem?_getD, List.getElem?_eq_none (by omega), List.take_of_length_le (by omega), List.take_of_length_le (by omega)]; simp
  rw [e]
  grind
theorem getD_at {l : List Int} {i : Nat} (h : i < l.length) : l.getD i 0 = l[i] := by rw [List.getD_eq_getElem?_getD, List.getElem?_eq_getElem h]; rfl
theorem getD_no {l : List Int} {i : Nat} (h : ¬ i < l.length) : l.getD i 0 = 0 := by rw [List.getD_eq_getElem?_getD, List.getElem?_eq_none (by omega)]; rfl
theorem own_snoc {w1 : World} {base e n cap : Nat} {k : IntKind} {v : Value} {lo : List Int} {x : Int} (h : w1.ownsRow base e 1 v n (lo.map (Value.int k) ++ [Value.int k x])) : w1.ownsRow base e 1 v n ((lo ++ [x]).map (Value.int k)) := by
  rw [List.map_append]; exact h
theorem kp_app {w wr w1 : World} {o : Obj} {g : Nat} (h : Below w.heap.size w wr) (hg : (wr.alloc o).grownBy w1 (some g)) (hb : w.heap.size ≤ g) : Below w.heap.size w w1 :=
  (h.alloc h.size _).grown hg (by have := h.size; simp; omega) (fun k e => by cases e; exact hb)
set_option maxHeartbeats 1000000 in
theorem minus_at (la lb : List Int) (va vb : Value) (w : World) (hl : la.length ≤ 100000) (hl' : lb.length ≤ 100000) (ha : Sls w .u64 va la) (hb : Sls w .u64 vb lb) (pa : Pc 1000000000 la) (pb : Pc 1000000000 lb) (hle : pv 1000000000 lb ≤ pv 1000000000 la) :
    Calls Tryz.prog 182 #[va, vb] w fun e w' => ∃ m, e = .returned (.slice (some ⟨w.heap.size, 0, none⟩) m la.length) ∧ Pcs w' .u64 1000000000 (.slice (some ⟨w.heap.size, 0, none⟩) m la.length) (pv 1000000000 la - pv 1000000000 lb) ∧ Kp w w' := by
  obtain ⟨aa, ca, rfl, hca⟩ := ha.val
  obtain ⟨ab, cb, rfl, hcb⟩ := hb.val
  obtain ⟨i0, hi, hz0, hz1, hz2⟩ := info_parts infoU
  have hlen : lb.length ≤ la.length := pb.len_le (by omega) pa hle
  have HA := Lib.hid ha; clear ha
  have HB := Lib.hid hb; clear hb
  have PA := Lib.hid pa; clear pa
  have PB := Lib.hid pb; clear pb
  have HLE := Lib.hid hle; clear hle
  go_enter Tryz.func182, Tryz.ntmps182
  go_wp2_with (at_make; refine wpList_make_own _ rfl _ _ 190 rfl w.heap.size 271 i0 (.int .u64 0) 1 Tryz.underlying190 hi hz0 hz1 _ _ _ la.length rfl rfl (by omega) ?b2 ?b3 (Nat.le_refl _) ?_)
  case b2 => rw [hz2]; omega
  case b3 => unfold maxLen; omega
  intro w0 hown0 hgrow0
  go_wp2_with fail
  have HB0 : Hid (Below w.heap.size w w0) := Lib.hid ((Below.refl _ w).grown hgrow0 (Nat.le_refl _) (fun k h => by cases h))
  clear hgrow0
  go_loopw [5, 6, 15] (fun out bo si wr => ∃ (i : Nat) (lo : List Int) (c : Int), i ≤ la.length ∧ si = .int .i64 i ∧ out = .slice (some ⟨w.heap.size, 0, none⟩) i la.length ∧ wr.ownsRow w.heap.size 271 1 (.slice (some ⟨w.heap.size, 0, none⟩) i la.length) i (lo.map (Value.int .u64)) ∧
      lo.length = i ∧ Dg 1000000000 lo ∧ bo = .int .u64 c ∧ 0 ≤ c ∧ c ≤ 1 ∧ pv 1000000000 lo = pv 1000000000 (la.take i) - pv 1000000000 (lb.take i) + c * 1000000000 ^ i ∧ Below w.heap.size w wr) (fun _ _ si _ => la.length - (intOf si).toNat)
  case atStart => exact ⟨0, [], 0, Nat.zero_le _, rfl, rfl, hown0, rfl, Dg.nil _, rfl, by omega, by omega, by simp [pv], HB0.out⟩
  case round =>
    obtain ⟨i, lo, c, hil, rfl, rfl, hown, hlo, hdo, rfl, hc0, hc1, hv, hbel⟩ := hrel
    have HO := Lib.hid hown; clear hown
    have HV := Lib.hid hv; clear hv
    have HD := Lib.hid hdo; clear hdo
    have HK := Lib.hid hbel; clear hbel
    by_cases hlt : i < la.length
    · obtain ⟨b, o, rfl⟩ := HA.out.addr (by omega)
      have ga := HA.out.cells HK.out hlt
      have hai := PA.out.1.at hlt
      by_cases hb : i < lb.length
      · obtain ⟨b', o', rfl⟩ := HB.out.addr (by omega)
        have gb := HB.out.cells HK.out hb
        have hbi := PB.out.1.at hb
        by_cases hx : la[i] < c + lb[i]
        · go_wp2_with (at_builtin; refine wpList_append_fits _ rfl _ _ 190 rfl w.heap.size 271 i0 1 Tryz.underlying190 hi hz1 w.heap.size i la.length _ rfl (HO.out.alloc _) ⟨wr.heap.size, 0, none⟩ 1 1 [.int .u64 (la[i] + 1000000000 - (c + lb[i]))] rfl rfl (by intro t u h; match t, h with | 0, h => simp at h; subst h; simp [Addr.add]) (by intro u hu; simp at hu; subst hu; rfl) (by omega) ?_; intro w1 hown1 hgrow1)
          go_roundw
          case rel => exact ⟨i + 1, lo ++ [la[i] + 1000000000 - (c + lb[i])], 1, by omega, by go_num, rfl, own_snoc (cap := 0) hown1, by simp [hlo], HD.out.snoc (by omega) (by omega), rfl, by omega, by omega, sub_step hlt hlo (y := c + lb[i]) HV.out (by rw [getD_at hb]) (by omega), kp_app HK.out hgrow1 (Nat.le_refl _)⟩
          case measure => simp only [intOf]; omega
        · go_wp2_with (at_builtin; refine wpList_append_fits _ rfl _ _ 190 rfl w.heap.size 271 i0 1 Tryz.underlying190 hi hz1 w.heap.size i la.length _ rfl (HO.out.alloc _) ⟨wr.heap.size, 0, none⟩ 1 1 [.int .u64 (la[i] - (c + lb[i]))] rfl rfl (by intro t u h; match t, h with | 0, h => simp at h; subst h; simp [Addr.add]) (by intro u hu; simp at hu; subst hu; rfl) (by omega) ?_; intro w1 hown1 hgrow1)
          go_roundw
          case rel => exact ⟨i + 1, lo ++ [la[i] - (c + lb[i])], 0, by omega, by go_num, rfl, own_snoc (cap := 0) hown1, by simp [hlo], HD.out.snoc (by omega) (by omega), rfl, by omega, by omega, sub_step hlt hlo (y := c + lb[i]) HV.out (by rw [getD_at hb]) (by omega), kp_app HK.out hgrow1 (Nat.le_refl _)⟩
          case measure => simp only [intOf]; omega
      · by_cases hx : la[i] < c
        · go_wp2_with (at_builtin; refine wpList_append_fits _ rfl _ _ 190 rfl w.heap.size 271 i0 1 Tryz.underlying190 hi hz1 w.heap.size i la.length _ rfl (HO.out.alloc _) ⟨wr.heap.size, 0, none⟩ 1 1 [.int .u64 (la[i] + 1000000000 - c)] rfl rfl (by intro t u h; match t, h with | 0, h => simp at h; subst h; simp [Addr.add]) (by intro u hu; simp at hu; subst hu; rfl) (by omega) ?_; intro w1 hown1 hgrow1)
          go_roundw
          case rel => exact ⟨i + 1, lo ++ [la[i] + 1000000000 - c], 1, by omega, by go_num, rfl, own_snoc (cap := 0) hown1, by simp [hlo], HD.out.snoc (by omega) (by omega), rfl, by omega, by omega, sub_step hlt hlo (y := c) HV.out (by rw [getD_no hb, Int.add_zero]) (by omega), kp_app HK.out hgrow1 (Nat.le_refl _)⟩
          case measure => simp only [intOf]; omega
        · go_wp2_with (at_builtin; refine wpList_append_fits _ rfl _ _ 190 rfl w.heap.size 271 i0 1 Tryz.underlying190 hi hz1 w.heap.size i la.length _ rfl (HO.out.alloc _) ⟨wr.heap.size, 0, none⟩ 1 1 [.int .u64 (la[i] - c)] rfl rfl (by intro t u h; match t, h with | 0, h => simp at h; subst h; simp [Addr.add]) (by intro u hu; simp at hu; subst hu; rfl) (by omega) ?_; intro w1 hown1 hgrow1)
          go_roundw
          case rel => exact ⟨i + 1, lo ++ [la[i] - c], 0, by omega, by go_num, rfl, own_snoc (cap := 0) hown1, by simp [hlo], HD.out.snoc (by omega) (by omega), rfl, by omega, by omega, sub_step hlt hlo (y := c) HV.out (by rw [getD_no hb, Int.add_zero]) (by omega), kp_app HK.out hgrow1 (Nat.le_refl _)⟩
          case measure => simp only [intOf]; omega
    · obtain rfl : i = la.length := by omega
      have hnn := pv_lt (B := 1000000000) (by omega) HD.out
      have hv := HV.out
      rw [List.take_length, List.take_of_length_le hlen] at hv
      have hc : c = 0 := by
        rcases (show c = 0 ∨ c = 1 by omega) with h | h
        · exact h
        · exfalso
          rw [h, Int.one_mul] at hv
          rw [hlo] at hnn
          have := HLE.out
          omega
      rw [hc, Int.zero_mul, Int.add_zero] at hv
      have HV' := Lib.hid hv; clear hv hnn
      go_wp2_with fail
      have hso : Sls wr .u64 (.slice (some ⟨w.heap.size, 0, none⟩) lo.length la.length) lo := by rw [hlo]; exact Sls.own HO.out
      have htk := trim_take lo _ _ _ (by omega) HD.out hso
      rw [hlo] at htk
      refine htk.mono ?_
      rintro e w2 ⟨m, hm, rfl, hc, hpv, hk⟩
      have hp : Pcs w2 .u64 1000000000 (.slice (some ⟨w.heap.size, 0, none⟩) m la.length) (pv 1000000000 lo) := ⟨_, (hso.take (by omega)).kp hk, hc, hpv⟩
      have HP := Lib.hid hp; clear hp htk hso hc hpv
      have HK2 := Lib.hid ((show Kp w wr from HK.out).then hk); clear hk
      go_wp2_with fail
      go_ret
      exact ⟨m, rfl, HV'.out ▸ HP.out, HK2.out⟩
theorem minus_walk (la lb : List Int) (va vb : Value) (w : World) (hl : la.length ≤ 100000) (hl' : lb.length ≤ 100000) (ha : Sls w .u64 va la) (hb : Sls w .u64 vb lb) (pa : Pc 1000000000 la) (pb : Pc 1000000000 lb) (hle : pv 1000000000 lb ≤ pv 1000000000 la) :
    Calls Tryz.prog 182 #[va, vb] w fun e w' => ∃ v', e = .returned v' ∧ Pcs w' .u64 1000000000 v' (pv 1000000000 la - pv 1000000000 lb) ∧ Kp w w' :=
  (minus_at la lb va vb w hl hl' ha hb pa pb hle).mono fun e w' ⟨m, h1, h2, h3⟩ => ⟨_, h1, h2, h3⟩
end Go.Proofs.YtjcfejncjdhplaaGreatDoor
