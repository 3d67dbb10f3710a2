/-
  klippelaw53.form, counts; query.kinds, kind.count.
-/
import Derived.Test.YtjcfejncjdhplaaGreatDoorSplW
import Derived.Test.YtjcfejncjdhplaaGreatDoorNamW
set_option linter.unusedSectionVars false
set_option linter.unusedVariables false
set_option linter.unusedSimpArgs false
namespace Klp
open Go Go.Lib
def formN (N : UInt8) : Nat → List (List UInt8)
  | 1 => [[117, 110, 105, 116], [97, 116], [N], [N], [N]]
  | 2 => [[111, 117, 116, 99, 114, 111, 112], [97, 116], [N], [N]]
  | 3 => [[104, 101, 105, 103, 104, 116], [97, 116], [N], [N]]
  | 4 => [[100, 101, 112, 116, 104], [111, 102], [85], [97, 116], [N], [N]]
  | 5 => [[108, 111, 103], [97, 116], [N], [N]]
  | 6 => [[99, 114, 111, 115, 115, 105, 110, 103, 115], [102, 114, 111, 109], [N], [N], [N], [116, 111], [N], [N], [N]]
  | 7 => [[116, 114, 97, 99, 101], [102, 114, 111, 109], [N], [N], [116, 111], [N], [N]]
  | 8 => [[118, 111, 108, 117, 109, 101], [111, 102], [85]]
  | 9 => [[115, 101, 99, 116, 105, 111, 110], [111, 102], [85], [102, 114, 111, 109], [N], [N], [116, 111], [N], [N]]
  | 10 => [[121, 111, 117, 110, 103, 101, 114], [85], [116, 104, 97, 110], [85]]
  | 11 => [[117, 110, 105, 116, 115]]
  | _ => []
def kwB : Nat → List UInt8
  | 1 => [117, 110, 105, 116, 32, 97, 116, 32, 78, 32, 78, 32, 78]
  | 2 => [111, 117, 116, 99, 114, 111, 112, 32, 97, 116, 32, 78, 32, 78]
  | 3 => [104, 101, 105, 103, 104, 116, 32, 97, 116, 32, 78, 32, 78]
  | 4 => [100, 101, 112, 116, 104, 32, 111, 102, 32, 85, 32, 97, 116, 32, 78, 32, 78]
  | 5 => [108, 111, 103, 32, 97, 116, 32, 78, 32, 78]
  | 6 => [99, 114, 111, 115, 115, 105, 110, 103, 115, 32, 102, 114, 111, 109, 32, 78, 32, 78, 32, 78, 32, 116, 111, 32, 78, 32, 78, 32, 78]
  | 7 => [116, 114, 97, 99, 101, 32, 102, 114, 111, 109, 32, 78, 32, 78, 32, 116, 111, 32, 78, 32, 78]
  | 8 => [118, 111, 108, 117, 109, 101, 32, 111, 102, 32, 85]
  | 9 => [115, 101, 99, 116, 105, 111, 110, 32, 111, 102, 32, 85, 32, 102, 114, 111, 109, 32, 78, 32, 78, 32, 116, 111, 32, 78, 32, 78]
  | 10 => [121, 111, 117, 110, 103, 101, 114, 32, 85, 32, 116, 104, 97, 110, 32, 85]
  | 11 => [117, 110, 105, 116, 115]
  | _ => []
theorem kw_spl : ∀ k, 1 ≤ k → k ≤ 11 → spl (kwB k) = formN 78 k := by
  intro k h1 h2
  rcases (show k = 1 ∨ k = 2 ∨ k = 3 ∨ k = 4 ∨ k = 5 ∨ k = 6 ∨ k = 7 ∨ k = 8 ∨ k = 9 ∨ k = 10 ∨ k = 11 by omega) with rfl | rfl | rfl | rfl | rfl | rfl | rfl | rfl | rfl | rfl | rfl <;> decide
def formI (N : UInt8) (k : Int) : List (List UInt8) := if 1 ≤ k ∧ k ≤ 11 then formN N k.toNat else []
theorem formI_no {N : UInt8} {k : Int} (h : k < 1 ∨ 11 < k) : formI N k = [] := by unfold formI; rw [if_neg (by omega)]
def cntW (x : List UInt8) (l : List (List UInt8)) : Nat := l.countP (· == x)
end Klp
namespace Go.Proofs.YtjcfejncjdhplaaGreatDoor
open Go.RowKit Go Klp
theorem sts_lit (w : World) (l : List (List UInt8)) (T : Nat) : Sts (w.alloc (.cells (l.map sv).toArray T)) (.slice (some ⟨w.heap.size, 0, none⟩) l.length l.length) l := by
  refine ⟨_, _, rfl, Nat.le_refl _, (fun e => by cases e), fun _ => ⟨w.heap.size, 0, rfl, fun i hi => ?_⟩⟩
  rw [Nat.zero_add, Lib.cell_of_heap (heap_alloc_new w _), ← Array.getElem?_toList, List.getElem?_map, List.getElem?_eq_getElem hi]
  rfl
set_option maxHeartbeats 4000000 in
theorem form_walk (k : Int) (w : World) : Calls Tryz.prog 21 #[.int .i64 k] w fun e w' => ∃ v, e = .returned v ∧ Sts w' v (formI 88 k) ∧ Kp w w' := by
  by_cases hk : 1 ≤ k ∧ k ≤ 11
  · rcases (show k = 1 ∨ k = 2 ∨ k = 3 ∨ k = 4 ∨ k = 5 ∨ k = 6 ∨ k = 7 ∨ k = 8 ∨ k = 9 ∨ k = 10 ∨ k = 11 by omega) with rfl | rfl | rfl | rfl | rfl | rfl | rfl | rfl | rfl | rfl | rfl
    all_goals
      clear hk
      go_enter Tryz.func21, Tryz.ntmps21
      go_wp2_with fail
      go_ret
    · exact ⟨_, rfl, sts_lit w (formN 88 1) _, kp_alloc _ _⟩
    · exact ⟨_, rfl, sts_lit w (formN 88 2) _, kp_alloc _ _⟩
    · exact ⟨_, rfl, sts_lit w (formN 88 3) _, kp_alloc _ _⟩
    · exact ⟨_, rfl, sts_lit w (formN 88 4) _, kp_alloc _ _⟩
    · exact ⟨_, rfl, sts_lit w (formN 88 5) _, kp_alloc _ _⟩
    · exact ⟨_, rfl, sts_lit w (formN 88 6) _, kp_alloc _ _⟩
    · exact ⟨_, rfl, sts_lit w (formN 88 7) _, kp_alloc _ _⟩
    · exact ⟨_, rfl, sts_lit w (formN 88 8) _, kp_alloc _ _⟩
    · exact ⟨_, rfl, sts_lit w (formN 88 9) _, kp_alloc _ _⟩
    · exact ⟨_, rfl, sts_lit w (formN 88 10) _, kp_alloc _ _⟩
    · exact ⟨_, rfl, sts_lit w (formN 88 11) _, kp_alloc _ _⟩
  · have hf : formI 88 k = [] := formI_no (by omega)
    have HF := Lib.hid hf
    have e1 : (k == 1) = false := by rw [beq_eq_false_iff_ne]; omega
    have e2 : (k == 2) = false := by rw [beq_eq_false_iff_ne]; omega
    have e3 : (k == 3) = false := by rw [beq_eq_false_iff_ne]; omega
    have e4 : (k == 4) = false := by rw [beq_eq_false_iff_ne]; omega
    have e5 : (k == 5) = false := by rw [beq_eq_false_iff_ne]; omega
    have e6 : (k == 6) = false := by rw [beq_eq_false_iff_ne]; omega
    have e7 : (k == 7) = false := by rw [beq_eq_false_iff_ne]; omega
    have e8 : (k == 8) = false := by rw [beq_eq_false_iff_ne]; omega
    have e9 : (k == 9) = false := by rw [beq_eq_false_iff_ne]; omega
    have ea : (k == 10) = false := by rw [beq_eq_false_iff_ne]; omega
    have eb : (k == 11) = false := by rw [beq_eq_false_iff_ne]; omega
    clear hf hk
    go_enter Tryz.func21, Tryz.ntmps21
    go_wp2_with fail
    go_ret
    exact ⟨_, rfl, by rw [HF.out]; exact Sts.nil _, Kp.refl _⟩
def KndC (cs : Array Value) : Prop := ∀ i, i < 11 → cs[3 * i]? = some (sv (kwB (i + 1))) ∧ (∃ f a b, cs[3 * i + 1]? = some (.func f a b)) ∧ ∃ a n c, cs[3 * i + 2]? = some (.slice a n c)
set_option maxHeartbeats 4000000 in
theorem kinds_walk (w : World) : Calls Tryz.prog 19 #[] w fun e w' => ∃ g cs, e = .returned (.slice (some ⟨g, 0, none⟩) 11 11) ∧ w'.heap[g]? = some (.cells cs 62 (0, 0)) ∧ KndC cs ∧ Kp w w' := by
  go_enter Tryz.func19, Tryz.ntmps19
  go_wp2_with fail
  go_ret
  apply Exists.intro
  apply Exists.intro
  refine And.intro rfl (And.intro ?h (And.intro ?k ?kp))
  case kp => repeat (first | exact kp_alloc _ _ | refine Kp.then ?_ (kp_alloc _ _))
  case h =>
    have := fun (W : World) (o : Obj) (n : Nat) (h : W.heap.size = n) => (by rw [← h]; exact heap_alloc_new W o : (W.alloc o).heap[n]? = some o)
    exact this _ _ _ (by simp)
  case k =>
    intro i hi
    rcases (show i = 0 ∨ i = 1 ∨ i = 2 ∨ i = 3 ∨ i = 4 ∨ i = 5 ∨ i = 6 ∨ i = 7 ∨ i = 8 ∨ i = 9 ∨ i = 10 by omega) with rfl | rfl | rfl | rfl | rfl | rfl | rfl | rfl | rfl | rfl | rfl <;> exact ⟨rfl, ⟨_, _, _, rfl⟩, ⟨_, _, _, rfl⟩⟩
set_option maxHeartbeats 1000000 in
theorem kcount_walk (k : List UInt8) (f s : Value) (x : List UInt8) (hl : k.length ≤ 1000) (w : World) : Calls Tryz.prog 28 #[.agg #[sv k, f, s], sv x] w fun e w' => e = .returned (.int .i64 (cntW x (spl k))) ∧ Kp w w' := by
  go_enter Tryz.func28, Tryz.ntmps28
  go_wp2_with fail
  refine (split_walk k (by omega) _).mono ?_
  rintro e w1 ⟨rfl, hr, hk⟩
  have hfl : (spl k).length ≤ 1001 := Nat.le_trans (spl_len k) (by omega)
  obtain ⟨l, hL⟩ : ∃ l, l = spl k := ⟨_, rfl⟩
  rw [← hL] at hr hfl ⊢
  have HL := Lib.hid hL
  have hr2 : ∀ n, (w.alloc (.cells #[sv k, f, s] 62)).heap.size = n → RowT w1 n l := fun n e => e ▸ hr
  have HS := Lib.hid (hr2 (w.heap.size + 1) (by simp))
  clear hr2
  have HK := Lib.hid hk
  clear hr hk hL
  go_wp2_with fail
  go_loop [5, 12] (fun u i => ∃ n : Nat, n ≤ l.length ∧ i = .int .i64 n ∧ u = .int .i64 (cntW x (l.take n))) (fun _ i => 1002 - (intOf i).toNat)
  case atStart => exact ⟨0, Nat.zero_le _, rfl, rfl⟩
  case round =>
    obtain ⟨n, hn, rfl, rfl⟩ := hrel
    have hc1 : cntW x (l.take n) ≤ 1001 := Nat.le_trans List.countP_le_length (by rw [List.length_take]; omega)
    by_cases hlt : n < l.length
    · have hc := HS.out.cell hlt
      have hs1 : cntW x (l.take (n + 1)) = cntW x (l.take n) + (if l[n] = x then 1 else 0) := by
        rw [take_snoc l n hlt]
        unfold cntW
        rw [List.countP_append]
        congr 1
        by_cases h : l[n] = x
        · simp [h]
        · simp [h]
      have HS1 := Lib.hid hs1
      clear hs1
      by_cases h : l[n] = x
      · have hb : (l[n] == x) = true := by rw [h]; exact beq_self_eq_true x
        have HH := Lib.hid h
        clear h
        go_wp2_with fail
        go_round
        case rel => exact ⟨n + 1, by omega, by go_num, by rw [HS1.out, if_pos HH.out]; go_num⟩
        case measure => simp [intOf]; omega
      · have hb : (l[n] == x) = false := by rw [beq_eq_false_iff_ne]; exact h
        have HH := Lib.hid h
        clear h
        go_wp2_with fail
        go_round
        case rel => exact ⟨n + 1, by omega, by go_num, by rw [HS1.out, if_neg HH.out]; rfl⟩
        case measure => simp [intOf]; omega
    · obtain rfl : n = l.length := by omega
      rw [List.take_length] at *
      go_wp2_with fail
      go_ret
      exact ⟨by rw [← HL.out]; rfl, (kp_alloc _ _).then HK.out⟩
set_option maxHeartbeats 1000000 in
theorem counts_walk (k : Int) (w : World) : Calls Tryz.prog 23 #[.int .i64 k] w fun e w' => e = .returned (.tuple #[.int .i64 (cntW [85] (formI 88 k)), .int .i64 (cntW [88] (formI 88 k))]) ∧ Kp w w' := by
  go_enter Tryz.func23, Tryz.ntmps23
  go_wp2_with fail
  refine (form_walk k _).mono ?_
  rintro e w1 ⟨v, rfl, hs, hk⟩
  obtain ⟨ao, cap, rfl, hcap⟩ := hs.val
  have hfl : (formI 88 k).length ≤ 100 := by
    unfold formI
    split
    · rename_i h
      rcases (show k = 1 ∨ k = 2 ∨ k = 3 ∨ k = 4 ∨ k = 5 ∨ k = 6 ∨ k = 7 ∨ k = 8 ∨ k = 9 ∨ k = 10 ∨ k = 11 by omega) with rfl | rfl | rfl | rfl | rfl | rfl | rfl | rfl | rfl | rfl | rfl <;> decide
    · simp
  obtain ⟨l, hL⟩ : ∃ l, l = formI 88 k := ⟨_, rfl⟩
  rw [← hL] at hs hfl hcap ⊢
  have HL := Lib.hid hL
  clear hL
  have HS := Lib.hid hs
  have HK := Lib.hid hk
  clear hs hk
  go_wp2_with fail
  go_loop [4, 5, 11] (fun u x i => ∃ n : Nat, n ≤ l.length ∧ i = .int .i64 n ∧ u = .int .i64 (cntW [85] (l.take n)) ∧ x = .int .i64 (cntW [88] (l.take n))) (fun _ _ i => 101 - (intOf i).toNat)
  case atStart => exact ⟨0, Nat.zero_le _, rfl, rfl, rfl⟩
  case round =>
    obtain ⟨n, hn, rfl, rfl, rfl⟩ := hrel
    have hc1 : cntW [85] (l.take n) ≤ 100 := Nat.le_trans List.countP_le_length (by rw [List.length_take]; omega)
    have hc2 : cntW [88] (l.take n) ≤ 100 := Nat.le_trans List.countP_le_length (by rw [List.length_take]; omega)
    by_cases hlt : n < l.length
    · obtain ⟨b, o, rfl⟩ := HS.out.addr (by omega)
      have hc := HS.out.cells (Kp.refl _) hlt
      have hs1 : ∀ x, cntW x (l.take (n + 1)) = cntW x (l.take n) + (if l[n] = x then 1 else 0) := fun x => by
        rw [take_snoc l n hlt]
        unfold cntW
        rw [List.countP_append]
        congr 1
        by_cases h : l[n] = x
        · simp [h]
        · simp [h]
      have HS1 := Lib.hid hs1
      clear hs1
      by_cases h85 : l[n] = [85]
      · have hb1 : (l[n] == [85]) = true := by rw [h85]; rfl
        have hb2 : (l[n] == [88]) = false := by rw [h85]; rfl
        have h88 : ¬ l[n] = [88] := by rw [h85]; decide
        have HH := Lib.hid (And.intro h85 h88)
        clear h85 h88
        go_wp2_with fail
        go_round
        case rel => exact ⟨n + 1, by omega, by go_num, by rw [HS1.out, if_pos HH.out.1]; go_num, by rw [HS1.out, if_neg HH.out.2]; rfl⟩
        case measure => simp [intOf]; omega
      · have hb1 : (l[n] == [85]) = false := by rw [beq_eq_false_iff_ne]; exact h85
        by_cases h88 : l[n] = [88]
        · have hb2 : (l[n] == [88]) = true := by rw [h88]; rfl
          have HH := Lib.hid (And.intro h85 h88)
          clear h85 h88
          go_wp2_with fail
          go_round
          case rel => exact ⟨n + 1, by omega, by go_num, by rw [HS1.out, if_neg HH.out.1]; rfl, by rw [HS1.out, if_pos HH.out.2]; go_num⟩
          case measure => simp [intOf]; omega
        · have hb2 : (l[n] == [88]) = false := by rw [beq_eq_false_iff_ne]; exact h88
          have HH := Lib.hid (And.intro h85 h88)
          clear h85 h88
          go_wp2_with fail
          go_round
          case rel => exact ⟨n + 1, by omega, by go_num, by rw [HS1.out, if_neg HH.out.1]; rfl, by rw [HS1.out, if_neg HH.out.2]; rfl⟩
          case measure => simp [intOf]; omega
    · obtain rfl : n = l.length := by omega
      rw [List.take_length] at *
      go_wp2_with fail
      go_ret2
      exact ⟨by rw [← HL.out]; rfl, HK.out⟩
end Go.Proofs.YtjcfejncjdhplaaGreatDoor
