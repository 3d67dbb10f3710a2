/-
  klippe/rational.Of, at a short int and 1 or 2.
-/
import Derived.Test.YtdkafeammgaknaaGreatDoorWkNum
set_option linter.unusedSectionVars false
set_option linter.unusedVariables false
set_option linter.unusedSimpArgs false
namespace Go.Proofs.YtdkafeammgaknaaGreatDoor
open Go.RowKit Go Klp
set_option maxHeartbeats 1000000 in
theorem brief_pn (s : ByteArray) (w : World) (B : Nat) (hB : B ≤ 9) (hB0 : 0 < B) (h0 : 0 < s.size) (h45 : ((s[0].toNat : Int) == 45) = false) (hd : digTo s 0 B) (hs : s.size = B) :
  Calls Tryz.prog 260 #[.string s] w fun e w' => e = .returned (.tuple #[.int .i64 (1 * valTo s 0 B),.int .i64 (1),.bool true]) ∧ w' = w := by
 have HD := Lib.hid hd; clear hd
 have HS := Lib.hid hs
 have hs1 : s.size ≤ 9 := by omega
 have hs9 : decide ((9 : Int) < (s.size : Int)) = false := by simp; omega
 have hs2 : B ≤ s.size := by omega
 clear hs
 go_enter Tryz.func260,Tryz.ntmps260
 go_wp2
 go_loop [2,5] (fun n i => ∃ k : Nat,0 ≤ k ∧ k ≤ B ∧ i = .int .i64 k ∧ n = .int .i64 (valTo s 0 k)) (fun _ i => 100 - (intOf i).toNat)
 case atStart => exact ⟨0,by omega,by omega,rfl,by rw [valTo_zero]⟩
 case round =>
  obtain ⟨k,hk0,hk,rfl,rfl⟩ := hrel
  have hb := valTo_lt s 0 B k HD.out hs2 hk0 hk (by omega)
  by_cases hlt : k < B
  ·have hkl : k < s.size := by omega
   have hdk := HD.out k hkl hk0 hlt
   have HP := Lib.hid (valTo_succ s 0 k hkl hk0)
   have h47' : ((s[k].toNat : Int) != 47) = true := by simp; omega
   go_wp2
   go_round
   case rel => exact ⟨k + 1,by omega,by omega,by go_num,by rw [HP.out]⟩
   case measure => simp [intOf]; omega
  ·obtain rfl : k = B := by omega
   have hge : ¬ k < s.size := by have := HS.out; omega
   go_wp2
   go_ret3
   exact ⟨rfl,rfl⟩
set_option maxHeartbeats 1000000 in
theorem brief_ps (s : ByteArray) (w : World) (B : Nat) (hB : B ≤ 9) (hB0 : 0 < B) (h0 : 0 < s.size) (h45 : ((s[0].toNat : Int) == 45) = false) (hd : digTo s 0 B) (M : Nat) (hM : M ≤ 9) (hs : s.size = M) (hsl : B < s.size) (h47 : ((s[B].toNat : Int) != 47) = false) (hd2 : digTo s (B + 1) M) :
  Calls Tryz.prog 260 #[.string s] w fun e w' => e = .returned (.tuple #[.int .i64 (1 * valTo s 0 B),.int .i64 (valTo s (B + 1) M),.bool true]) ∧ w' = w := by
 have HD := Lib.hid hd; clear hd
 have HS := Lib.hid hs
 have hs1 : s.size ≤ 9 := by omega
 have hs9 : decide ((9 : Int) < (s.size : Int)) = false := by simp; omega
 have hs2 : B ≤ s.size := by omega
 have HD2 := Lib.hid hd2; clear hd2
 have H47 := Lib.hid h47; clear h47
 clear hs
 go_enter Tryz.func260,Tryz.ntmps260
 go_wp2
 go_loop [2,5] (fun n i => ∃ k : Nat,0 ≤ k ∧ k ≤ B ∧ i = .int .i64 k ∧ n = .int .i64 (valTo s 0 k)) (fun _ i => 100 - (intOf i).toNat)
 case atStart => exact ⟨0,by omega,by omega,rfl,by rw [valTo_zero]⟩
 case round =>
  obtain ⟨k,hk0,hk,rfl,rfl⟩ := hrel
  have hb := valTo_lt s 0 B k HD.out hs2 hk0 hk (by omega)
  by_cases hlt : k < B
  ·have hkl : k < s.size := by omega
   have hdk := HD.out k hkl hk0 hlt
   have HP := Lib.hid (valTo_succ s 0 k hkl hk0)
   have h47' : ((s[k].toNat : Int) != 47) = true := by simp; omega
   go_wp2
   go_round
   case rel => exact ⟨k + 1,by omega,by omega,by go_num,by rw [HP.out]⟩
   case measure => simp [intOf]; omega
  ·obtain rfl : k = B := by omega
   have h47 := H47.out
   have hks : k < s.size := by have := HS.out; omega
   go_wp2
   go_loop [3,5] (fun d i => ∃ j : Nat,k + 1 ≤ j ∧ j ≤ M ∧ i = .int .i64 j ∧ d = .int .i64 (valTo s (k + 1) j)) (fun _ i => 100 - (intOf i).toNat)
   case atStart => exact ⟨k + 1,by omega,by have := HS.out; omega,by go_num,by rw [valTo_zero]⟩
   case round =>
    obtain ⟨j,hj0,hj,rfl,rfl⟩ := hrel
    have hb2 := valTo_lt s (k + 1) M j HD2.out (by have := HS.out; omega) hj0 hj (by omega)
    have hjs : j ≤ s.size := by have := HS.out; omega
    by_cases hlt2 : j < M
    ·have hkl : j < s.size := by have := HS.out; omega
     have hdk := HD2.out j hkl hj0 hlt2
     have HP := Lib.hid (valTo_succ s (k + 1) j hkl hj0)
     go_wp2
     go_round
     case rel => exact ⟨j + 1,by omega,by omega,by go_num,by rw [HP.out]⟩
     case measure => simp [intOf]; omega
    ·obtain rfl : j = M := by omega
     have hge : ¬ j < s.size := by have := HS.out; omega
     go_wp2
     go_ret3
     exact ⟨rfl,rfl⟩
set_option maxHeartbeats 1000000 in
theorem brief_mn (s : ByteArray) (w : World) (B : Nat) (hB : B ≤ 9) (hB0 : 1 < B) (h0 : 0 < s.size) (h45 : ((s[0].toNat : Int) == 45) = true) (hd : digTo s 1 B) (hs : s.size = B) :
  Calls Tryz.prog 260 #[.string s] w fun e w' => e = .returned (.tuple #[.int .i64 (-1 * valTo s 1 B),.int .i64 (1),.bool true]) ∧ w' = w := by
 have HD := Lib.hid hd; clear hd
 have HS := Lib.hid hs
 have hs1 : s.size ≤ 9 := by omega
 have hs9 : decide ((9 : Int) < (s.size : Int)) = false := by simp; omega
 have hs2 : B ≤ s.size := by omega
 clear hs
 go_enter Tryz.func260,Tryz.ntmps260
 go_wp2
 go_loop [2,5] (fun n i => ∃ k : Nat,1 ≤ k ∧ k ≤ B ∧ i = .int .i64 k ∧ n = .int .i64 (valTo s 1 k)) (fun _ i => 100 - (intOf i).toNat)
 case atStart => exact ⟨1,by omega,by omega,rfl,by rw [valTo_zero]⟩
 case round =>
  obtain ⟨k,hk0,hk,rfl,rfl⟩ := hrel
  have hb := valTo_lt s 1 B k HD.out hs2 hk0 hk (by omega)
  by_cases hlt : k < B
  ·have hkl : k < s.size := by omega
   have hdk := HD.out k hkl hk0 hlt
   have HP := Lib.hid (valTo_succ s 1 k hkl hk0)
   have h47' : ((s[k].toNat : Int) != 47) = true := by simp; omega
   go_wp2
   go_round
   case rel => exact ⟨k + 1,by omega,by omega,by go_num,by rw [HP.out]⟩
   case measure => simp [intOf]; omega
  ·obtain rfl : k = B := by omega
   have hge : ¬ k < s.size := by have := HS.out; omega
   go_wp2
   go_ret3
   exact ⟨rfl,rfl⟩
set_option maxHeartbeats 1000000 in
theorem brief_ms (s : ByteArray) (w : World) (B : Nat) (hB : B ≤ 9) (hB0 : 1 < B) (h0 : 0 < s.size) (h45 : ((s[0].toNat : Int) == 45) = true) (hd : digTo s 1 B) (M : Nat) (hM : M ≤ 9) (hs : s.size = M) (hsl : B < s.size) (h47 : ((s[B].toNat : Int) != 47) = false) (hd2 : digTo s (B + 1) M) :
  Calls Tryz.prog 260 #[.string s] w fun e w' => e = .returned (.tuple #[.int .i64 (-1 * valTo s 1 B),.int .i64 (valTo s (B + 1) M),.bool true]) ∧ w' = w := by
 have HD := Lib.hid hd; clear hd
 have HS := Lib.hid hs
 have hs1 : s.size ≤ 9 := by omega
 have hs9 : decide ((9 : Int) < (s.size : Int)) = false := by simp; omega
 have hs2 : B ≤ s.size := by omega
 have HD2 := Lib.hid hd2; clear hd2
 have H47 := Lib.hid h47; clear h47
 clear hs
 go_enter Tryz.func260,Tryz.ntmps260
 go_wp2
 go_loop [2,5] (fun n i => ∃ k : Nat,1 ≤ k ∧ k ≤ B ∧ i = .int .i64 k ∧ n = .int .i64 (valTo s 1 k)) (fun _ i => 100 - (intOf i).toNat)
 case atStart => exact ⟨1,by omega,by omega,rfl,by rw [valTo_zero]⟩
 case round =>
  obtain ⟨k,hk0,hk,rfl,rfl⟩ := hrel
  have hb := valTo_lt s 1 B k HD.out hs2 hk0 hk (by omega)
  by_cases hlt : k < B
  ·have hkl : k < s.size := by omega
   have hdk := HD.out k hkl hk0 hlt
   have HP := Lib.hid (valTo_succ s 1 k hkl hk0)
   have h47' : ((s[k].toNat : Int) != 47) = true := by simp; omega
   go_wp2
   go_round
   case rel => exact ⟨k + 1,by omega,by omega,by go_num,by rw [HP.out]⟩
   case measure => simp [intOf]; omega
  ·obtain rfl : k = B := by omega
   have h47 := H47.out
   have hks : k < s.size := by have := HS.out; omega
   go_wp2
   go_loop [3,5] (fun d i => ∃ j : Nat,k + 1 ≤ j ∧ j ≤ M ∧ i = .int .i64 j ∧ d = .int .i64 (valTo s (k + 1) j)) (fun _ i => 100 - (intOf i).toNat)
   case atStart => exact ⟨k + 1,by omega,by have := HS.out; omega,by go_num,by rw [valTo_zero]⟩
   case round =>
    obtain ⟨j,hj0,hj,rfl,rfl⟩ := hrel
    have hb2 := valTo_lt s (k + 1) M j HD2.out (by have := HS.out; omega) hj0 hj (by omega)
    have hjs : j ≤ s.size := by have := HS.out; omega
    by_cases hlt2 : j < M
    ·have hkl : j < s.size := by have := HS.out; omega
     have hdk := HD2.out j hkl hj0 hlt2
     have HP := Lib.hid (valTo_succ s (k + 1) j hkl hj0)
     go_wp2
     go_round
     case rel => exact ⟨j + 1,by omega,by omega,by go_num,by rw [HP.out]⟩
     case measure => simp [intOf]; omega
    ·obtain rfl : j = M := by omega
     have hge : ¬ j < s.size := by have := HS.out; omega
     go_wp2
     go_ret3
     exact ⟨rfl,rfl⟩
theorem brief_rs (n d : Int) (w : World) (h3 : 0 < d) (hl : (rs n d).length ≤ 9) :
  Calls Tryz.prog 260 #[.string ⟨(rs n d).toArray⟩] w fun e w' => e = .returned (.tuple #[.int .i64 n,.int .i64 d,.bool true]) ∧ w' = w := by
 have q1 := dec_pos n.natAbs
 have q2 := dec_pos d.natAbs
 have v1 := dec_val n.natAbs
 have v2 := dec_val d.natAbs
 have hdp : ¬ d < 0 := by omega
 by_cases hn : n < 0
 ·by_cases hd : d = 1
  ·subst hd
   rw [rs_one,itoa_neg' hn] at hl ⊢
   try simp only [List.length_append,List.length_cons] at hl
   have e : (45 :: Lib.decDigits n.natAbs) = [45] ++ (Lib.decDigits n.natAbs ++ []) := by simp
   have hv := valTo_mk [45] (Lib.decDigits n.natAbs) []
   have hdg := digTo_mk (p := [45]) (r := []) (dec_dig n.natAbs)
   rw [← e] at hv hdg
   simp only [List.length_singleton] at hv hdg
   refine (brief_mn ⟨(45 :: Lib.decDigits n.natAbs).toArray⟩ w (1 + (Lib.decDigits n.natAbs).length) (by omega) (by omega) (by rw [size_mk]; simp) rfl hdg (by rw [size_mk]; simp; omega)).mono ?_
   rintro e w' ⟨rfl,rfl⟩
   refine ⟨?_,rfl⟩
   rw [hv,v1]
   have a1 : -1 * ((n.natAbs : Nat) : Int) = n := by omega
   rw [a1]
  ·rw [rs_of hd,itoa_neg' hn,itoa_pos' hdp] at hl ⊢
   try simp only [List.length_append,List.length_cons] at hl
   have e : (45 :: Lib.decDigits n.natAbs ++ 47 :: Lib.decDigits d.natAbs) = [45] ++ (Lib.decDigits n.natAbs ++ 47 :: Lib.decDigits d.natAbs) := by simp
   have e' : (45 :: Lib.decDigits n.natAbs ++ 47 :: Lib.decDigits d.natAbs) = ([45] ++ Lib.decDigits n.natAbs ++ [47]) ++ (Lib.decDigits d.natAbs ++ []) := by simp
   have hv := valTo_mk [45] (Lib.decDigits n.natAbs) (47 :: Lib.decDigits d.natAbs)
   have hdg := digTo_mk (p := [45]) (r := 47 :: Lib.decDigits d.natAbs) (dec_dig n.natAbs)
   have hv2 := valTo_mk ([45] ++ Lib.decDigits n.natAbs ++ [47]) (Lib.decDigits d.natAbs) []
   have hdg2 := digTo_mk (p := [45] ++ Lib.decDigits n.natAbs ++ [47]) (r := []) (dec_dig d.natAbs)
   rw [← e] at hv hdg
   rw [← e'] at hv2 hdg2
   have el : ([45] ++ Lib.decDigits n.natAbs ++ [47]).length = 1 + (Lib.decDigits n.natAbs).length + 1 := by simp; omega
   rw [el] at hv2 hdg2
   simp only [List.length_singleton] at hv hdg
   have hs : (⟨(45 :: Lib.decDigits n.natAbs ++ 47 :: Lib.decDigits d.natAbs).toArray⟩ : ByteArray).size = 1 + (Lib.decDigits n.natAbs).length + 1 + (Lib.decDigits d.natAbs).length := by rw [size_mk]; simp; omega
   refine (brief_ms ⟨(45 :: Lib.decDigits n.natAbs ++ 47 :: Lib.decDigits d.natAbs).toArray⟩ w (1 + (Lib.decDigits n.natAbs).length) (by omega) (by omega) (by omega) rfl hdg (1 + (Lib.decDigits n.natAbs).length + 1 + (Lib.decDigits d.natAbs).length) (by omega) hs (by omega) ?_ hdg2).mono ?_
   ·rw [get_mk _ _ (by omega) (by simp; omega),List.getElem_append_right (by simp; omega)]
    simp [Nat.add_comm]
   ·rintro e w' ⟨rfl,rfl⟩
    refine ⟨?_,rfl⟩
    rw [hv,v1,hv2,v2]
    have a1 : -1 * ((n.natAbs : Nat) : Int) = n := by omega
    have a2 : ((d.natAbs : Nat) : Int) = d := by omega
    rw [a1,a2]
 ·obtain ⟨c,r,hc,hcd⟩ : ∃ c r,Lib.decDigits n.natAbs = c :: r ∧ isDig c := by
   cases hl : Lib.decDigits n.natAbs with
   | nil => rw [hl] at q1; simp at q1
   | cons c r => exact ⟨c,r,rfl,dec_dig n.natAbs c (by rw [hl]; exact List.mem_cons_self ..)⟩
  unfold isDig at hcd
  have h45 : (((c.toNat : Nat) : Int) == 45) = false := by rw [beq_eq_false_iff_ne]; omega
  by_cases hd : d = 1
  ·subst hd
   rw [rs_one,itoa_pos' hn] at hl ⊢
   try simp only [List.length_append,List.length_cons] at hl
   have e : Lib.decDigits n.natAbs = [] ++ (Lib.decDigits n.natAbs ++ []) := by simp
   have hv := valTo_mk [] (Lib.decDigits n.natAbs) []
   have hdg := digTo_mk (p := []) (r := []) (dec_dig n.natAbs)
   rw [← e] at hv hdg
   simp only [List.length_nil,Nat.zero_add] at hv hdg
   refine (brief_pn ⟨(Lib.decDigits n.natAbs).toArray⟩ w (Lib.decDigits n.natAbs).length (by omega) (by omega) (by rw [size_mk]; omega) ?_ hdg (by rw [size_mk])).mono ?_
   ·rw [get_mk _ 0 (by rw [size_mk]; omega) q1]
    simp only [hc,List.getElem_cons_zero]
    exact h45
   ·rintro e w' ⟨rfl,rfl⟩
    refine ⟨?_,rfl⟩
    rw [hv,v1]
    have a1 : 1 * ((n.natAbs : Nat) : Int) = n := by omega
    rw [a1]
  ·rw [rs_of hd,itoa_pos' hn,itoa_pos' hdp] at hl ⊢
   try simp only [List.length_append,List.length_cons] at hl
   have e : (Lib.decDigits n.natAbs ++ 47 :: Lib.decDigits d.natAbs) = [] ++ (Lib.decDigits n.natAbs ++ 47 :: Lib.decDigits d.natAbs) := by simp
   have e' : (Lib.decDigits n.natAbs ++ 47 :: Lib.decDigits d.natAbs) = (Lib.decDigits n.natAbs ++ [47]) ++ (Lib.decDigits d.natAbs ++ []) := by simp
   have hv := valTo_mk [] (Lib.decDigits n.natAbs) (47 :: Lib.decDigits d.natAbs)
   have hdg := digTo_mk (p := []) (r := 47 :: Lib.decDigits d.natAbs) (dec_dig n.natAbs)
   have hv2 := valTo_mk (Lib.decDigits n.natAbs ++ [47]) (Lib.decDigits d.natAbs) []
   have hdg2 := digTo_mk (p := Lib.decDigits n.natAbs ++ [47]) (r := []) (dec_dig d.natAbs)
   rw [← e] at hv hdg
   rw [← e'] at hv2 hdg2
   have el : (Lib.decDigits n.natAbs ++ [47]).length = (Lib.decDigits n.natAbs).length + 1 := by simp
   rw [el] at hv2 hdg2
   simp only [List.length_nil,Nat.zero_add] at hv hdg
   have hs : (⟨(Lib.decDigits n.natAbs ++ 47 :: Lib.decDigits d.natAbs).toArray⟩ : ByteArray).size = (Lib.decDigits n.natAbs).length + 1 + (Lib.decDigits d.natAbs).length := by rw [size_mk]; simp; omega
   refine (brief_ps ⟨(Lib.decDigits n.natAbs ++ 47 :: Lib.decDigits d.natAbs).toArray⟩ w (Lib.decDigits n.natAbs).length (by omega) (by omega) (by omega) ?_ hdg ((Lib.decDigits n.natAbs).length + 1 + (Lib.decDigits d.natAbs).length) (by omega) hs (by omega) ?_ hdg2).mono ?_
   ·rw [get_mk _ 0 (by omega) (by simp; omega),List.getElem_append_left (by omega)]
    simp only [hc,List.getElem_cons_zero]
    exact h45
   ·rw [get_mk _ _ (by omega) (by simp),List.getElem_append_right (by omega)]
    simp
   ·rintro e w' ⟨rfl,rfl⟩
    refine ⟨?_,rfl⟩
    rw [hv,v1,hv2,v2]
    have a1 : 1 * ((n.natAbs : Nat) : Int) = n := by omega
    have a2 : ((d.natAbs : Nat) : Int) = d := by omega
    rw [a1,a2]
end Go.Proofs.YtdkafeammgaknaaGreatDoor
namespace Go.Proofs.YtdkafeammgaknaaGreatDoor
open Go.RowKit Go Klp
def Br (q : Rat) : Prop := (canon q).length ≤ 9
set_option maxHeartbeats 400000 in
theorem lowest_one (n : Int) (w : World) (hn : -9223372036854775807 ≤ n) (hn' : n ≤ 9223372036854775807) (ht : PTab w) :
  Calls Tryz.prog 261 #[.int .i64 n,.int .i64 1] w fun e w' => e = .returned (.string ⟨(Lib.itoa n).toArray⟩) ∧ Kp w w' := by
 have HT := Lib.hid ht; clear ht
 go_enter Tryz.func261,Tryz.ntmps261
 go_wp2_with fail
 refine (itoa_any n _ (by omega) (by omega) HT.out).mono ?_
 rintro e w1 ⟨rfl,hk1⟩
 have HK1 := Lib.hid hk1; clear hk1
 go_wp2_with fail
 go_ret
 exact ⟨rfl,HK1.out⟩
set_option maxHeartbeats 1000000 in
theorem lowest_any (n d g n' d' m : Int) (w : World) (hd1 : (d != 1) = true) (hm : max n (-n) = m) (hm1 : 0 ≤ m) (hm2 : m ≤ 9223372036854775807) (hn : -9223372036854775807 ≤ n) (hn' : n ≤ 9223372036854775807) (hd : 1 ≤ d) (hd' : d ≤ 9223372036854775807)
  (hg1 : 1 ≤ g) (hg2 : g ≤ d) (hgcd : (Int.gcd m d : Int) = g) (hq1 : n.tdiv g = n') (hq2 : d / g = d') (hb1 : -9223372036854775807 ≤ n') (hb2 : n' ≤ 9223372036854775807) (hb3 : 1 ≤ d') (hb4 : d' ≤ 9223372036854775807) (ht : PTab w) :
  Calls Tryz.prog 261 #[.int .i64 n,.int .i64 d] w fun e w' => e = .returned (.string (ratS n' d')) ∧ Kp w w' := by
 have HT := Lib.hid ht; clear ht
 have HM := Lib.hid hm; clear hm
 have HGC := Lib.hid hgcd; clear hgcd
 have HQ1 := Lib.hid hq1; clear hq1
 have HQ2 := Lib.hid hq2; clear hq2
 go_enter Tryz.func261,Tryz.ntmps261
 go_wp2
 go_loopw [5,6] (fun a b wr => ∃ x y : Int,a = .int .i64 x ∧ b = .int .i64 y ∧ (Int.gcd x y : Int) = g ∧ 0 ≤ x ∧ x ≤ 9223372036854775807 ∧ 0 ≤ y ∧ y ≤ 9223372036854775807 ∧ Kp w wr) (fun _ b _ => (intOf b).natAbs)
 case atStart => exact ⟨m,d,by rw [HM.out],rfl,HGC.out,by omega,by omega,by omega,by omega,Kp.refl w⟩
 case round =>
  obtain ⟨x,y,rfl,rfl,hg,hx1,hx2,hy1,hy2,hk⟩ := hrel
  have HG := Lib.hid hg; clear hg
  have HK := Lib.hid hk; clear hk
  by_cases hy : y = 0
  ·subst hy
   obtain rfl : x = g := by have := HG.out; rw [Int.gcd_zero_right] at this; omega
   have hq1 := HQ1.out
   have hq2 := HQ2.out
   clear HG
   have hgz : (x == 0) = false := by simp; omega
   go_wp2
   go_region
   by_cases h1 : d' = 1
   ·have H1 := Lib.hid h1; clear h1
    have h1' : (d' == 1) = true := by simp [H1.out]
    go_wp2_with fail
    refine (itoa_any n' _ (by omega) (by omega) (HT.out.kp (HK.out.then (Kp.drew _)))).mono ?_
    rintro e w1 ⟨rfl,hk1⟩
    have HK1 := Lib.hid hk1; clear hk1
    go_wp2_with fail
    go_ret
    exact ⟨by rw [ratS,if_pos H1.out]; rfl,HK.out.then ((Kp.drew _).then HK1.out)⟩
   ·have H1 := Lib.hid h1; clear h1
    have h1' : (d' == 1) = false := by simp [H1.out]
    have z1 := Lib.itoa_length_le n' (by omega) (by omega)
    have z2 := Lib.itoa_length_le d' (by omega) (by omega)
    have a1 := fun w => run_string_add_sum (P := Tryz.prog) (w := w) ⟨(Lib.itoa n').toArray⟩ ⟨#[47]⟩ (by simp [ByteArray.size]; omega)
    have a2 := fun w => run_string_add_sum (P := Tryz.prog) (w := w) (⟨(Lib.itoa n').toArray⟩ ++ ⟨#[47]⟩) ⟨(Lib.itoa d').toArray⟩ (by simp [ByteArray.size]; omega)
    go_wp2_with fail
    refine (itoa_any n' _ (by omega) (by omega) (HT.out.kp (HK.out.then (Kp.drew _)))).mono ?_
    rintro e w1 ⟨rfl,hk1⟩
    have HK1 := Lib.hid hk1; clear hk1
    go_wp2_with fail
    refine (itoa_any d' _ (by omega) (by omega) (HT.out.kp (HK.out.then ((Kp.drew _).then HK1.out)))).mono ?_
    rintro e w2 ⟨rfl,hk2⟩
    have HK2 := Lib.hid hk2; clear hk2
    go_wp2_with fail
    go_ret
    exact ⟨by rw [ratS,if_neg H1.out]; rfl,(HK.out.then ((Kp.drew _).then HK1.out)).then HK2.out⟩
  ·have hy0 : (y != 0) = true := by simpa using hy
   have hyf : (y == 0) = false := by simpa using hy
   go_wp2
   go_region
   go_wp2
   go_roundw
   case rel =>
    have e : x % y = x.tmod y := (Int.tmod_eq_emod_of_nonneg hx1).symm
    have g1 := (gcd_step x y).trans HG.out
    rw [← e] at g1
    exact ⟨y,x % y,rfl,rfl,g1,hy1,hy2,Int.emod_nonneg _ hy,by have := Int.emod_lt_of_pos x (show 0 < y by omega); omega,HK.out.then (Kp.drew _)⟩
   case measure =>
    have := Int.emod_nonneg x hy
    have := Int.emod_lt_of_pos x (show 0 < y by omega)
    simp only [intOf]; omega
theorem lowest_rat (n d : Int) (w : World) (hn : -9223372036854775807 ≤ n) (hn' : n ≤ 9223372036854775807) (hd : 1 ≤ d) (hd' : d ≤ 9223372036854775807) (ht : PTab w) :
  Calls Tryz.prog 261 #[.int .i64 n,.int .i64 d] w fun e w' => e = .returned (strV (canon (mkRat n d.toNat))) ∧ Kp w w' := by
 by_cases h1 : d = 1
 ·subst h1
  refine (lowest_one n w hn hn' ht).mono fun e w' ⟨h,hk⟩ => ⟨?_,hk⟩
  rw [h]
  have : mkRat n (1 : Int).toNat = (n : Rat) := Rat.mkRat_one ..
  rw [this]
  show _ = Ending.returned (strV (Klp.rs n 1))
  rw [rs_one]
 ·have hg0 : 0 < Int.gcd n d := Int.gcd_pos_of_ne_zero_right _ (by omega)
  have hgd : (Int.gcd n d : Int) ∣ d := Int.gcd_dvd_right ..
  have hgn : (Int.gcd n d : Int) ∣ n := Int.gcd_dvd_left ..
  have hle : (Int.gcd n d : Int) ≤ d := Int.le_of_dvd (by omega) hgd
  obtain ⟨a,ha⟩ := hgn
  obtain ⟨b,hb⟩ := hgd
  generalize hgg : (Int.gcd n d : Int) = g at *
  have hg1 : 1 ≤ g := by omega
  have q1 : n.tdiv g = a := by rw [ha]; exact Int.mul_tdiv_cancel_left _ (by omega)
  have q2 : d / g = b := by rw [hb]; exact Int.mul_ediv_cancel_left _ (by omega)
  have hab : a.natAbs ≤ n.natAbs := by
   rw [ha,Int.natAbs_mul]
   exact Nat.le_mul_of_pos_left _ (by omega)
  have hb1 : 1 ≤ b := by
   rcases Int.lt_or_le b 1 with h | h
   ·exfalso
    have : g * b ≤ 0 := Int.mul_nonpos_of_nonneg_of_nonpos (by omega) (by omega)
    omega
   ·exact h
  have hb2 : b ≤ d := by
   have : 1 * b ≤ g * b := Int.mul_le_mul_of_nonneg_right hg1 (by omega)
   omega
  have hgm : (Int.gcd (n.natAbs : Int) d : Int) = g := by rw [← hgg]; unfold Int.gcd; simp
  refine (lowest_any n d g a b n.natAbs w (by simpa using h1) (by omega) (by omega) (by omega) hn hn' hd hd' hg1 hle hgm q1 q2 (by omega) (by omega) hb1 (by omega) ht).mono ?_
  rintro e w' ⟨rfl,hk⟩
  refine ⟨?_,hk⟩
  rw [ratS_eq]
  have hdn : d.toNat ≠ 0 := by omega
  have hgcd : ((d.toNat.gcd n.natAbs : Nat) : Int) = g := by
   rw [← hgg]
   unfold Int.gcd
   rw [Nat.gcd_comm,show d.toNat = d.natAbs from by omega]
  have e1 : (mkRat n d.toNat).num = a := by
   rw [Rat.num_mkRat,if_neg hdn,hgcd,ha]; exact Int.mul_ediv_cancel_left _ (by omega)
  have e2 : ((mkRat n d.toNat).den : Int) = b := by
   rw [Rat.den_mkRat,if_neg hdn,Int.natCast_ediv,hgcd,show ((d.toNat : Nat) : Int) = d from by omega]; exact q2
  unfold canon
  rw [e1,e2]
set_option maxHeartbeats 400000 in
theorem radd_walk (la lb : List UInt8) (n d m e : Int) (w : World)
  (qa : ∀ w,Calls Tryz.prog 260 #[.string ⟨la.toArray⟩] w fun x w' => x = .returned (.tuple #[.int .i64 n,.int .i64 d,.bool true]) ∧ w' = w)
  (qb : ∀ w,Calls Tryz.prog 260 #[.string ⟨lb.toArray⟩] w fun x w' => x = .returned (.tuple #[.int .i64 m,.int .i64 e,.bool true]) ∧ w' = w)
  (b1 : -1000000000000000000 ≤ n * e) (b2 : n * e ≤ 1000000000000000000) (b3 : -1000000000000000000 ≤ m * d) (b4 : m * d ≤ 1000000000000000000) (b5 : 1 ≤ d * e) (b6 : d * e ≤ 1000000000000000000) (b7 : -1000000000000000000 ≤ n * m) (b8 : n * m ≤ 1000000000000000000) (ht : PTab w) :
  Calls Tryz.prog 182 #[.string ⟨la.toArray⟩,.string ⟨lb.toArray⟩] w fun x w' => x = .returned (strV (canon (mkRat (n * e + m * d) (d * e).toNat))) ∧ Kp w w' := by
 have HA := Lib.hid qa; clear qa
 have HB := Lib.hid qb; clear qb
 have HT := Lib.hid ht; clear ht
 go_enter Tryz.func182,Tryz.ntmps182
 go_wp2_with fail
 refine (HA.out w).mono ?_
 rintro x w' ⟨rfl,hw⟩
 subst hw
 go_wp2_with fail
 refine (HB.out _).mono ?_
 rintro x w' ⟨rfl,hw⟩
 subst hw
 go_wp2_with fail
 refine (lowest_rat (n * e + m * d) (d * e) _ (by omega) (by omega) (by omega) (by omega) HT.out).mono ?_
 rintro x w' ⟨rfl,hk⟩
 have HK := Lib.hid hk; clear hk
 go_wp2_with fail
 go_ret
 exact ⟨rfl,HK.out⟩
theorem radd_rat (a b : Rat) (w : World) (ha : Sm a) (hb : Sm b) (ba : Br a) (bb : Br b) (ht : PTab w) : Calls Tryz.prog 182 #[strV (canon a),strV (canon b)] w fun e w' => e = .returned (strV (canon (a + b))) ∧ Kp w w' := by
 have d1 := a.den_pos
 have d2 := b.den_pos
 have ⟨p1,p2,p3⟩ := ha
 have ⟨q1,q2,q3⟩ := hb
 have m1 := mul_bd (a := a.num) (b := b.den) (k := 1000000000) (m := 1000000000) (by omega) (by omega) (by omega) (by omega)
 have m2 := mul_bd (a := b.num) (b := a.den) (k := 1000000000) (m := 1000000000) (by omega) (by omega) (by omega) (by omega)
 have m3 := mul_bd (a := a.den) (b := b.den) (k := 1000000000) (m := 1000000000) (by omega) (by omega) (by omega) (by omega)
 have m5 := mul_bd (a := a.num) (b := b.num) (k := 1000000000) (m := 1000000000) (by omega) (by omega) (by omega) (by omega)
 have m4 : 0 < (a.den : Int) * b.den := Int.mul_pos (by omega) (by omega)
 have h := radd_walk (canon a) (canon b) a.num a.den b.num b.den w (fun w => brief_rs _ _ w (by omega) ba) (fun w => brief_rs _ _ w (by omega) bb) (by omega) (by omega) (by omega) (by omega) (by omega) (by omega) (by omega) (by omega) ht
 rw [Rat.add_def']
 have : ((a.den : Int) * b.den).toNat = a.den * b.den := by rw [← Int.natCast_mul]; rfl
 rw [this] at h
 exact h
set_option maxHeartbeats 400000 in
theorem rmul_walk (la lb : List UInt8) (n d m e : Int) (w : World)
  (qa : ∀ w,Calls Tryz.prog 260 #[.string ⟨la.toArray⟩] w fun x w' => x = .returned (.tuple #[.int .i64 n,.int .i64 d,.bool true]) ∧ w' = w)
  (qb : ∀ w,Calls Tryz.prog 260 #[.string ⟨lb.toArray⟩] w fun x w' => x = .returned (.tuple #[.int .i64 m,.int .i64 e,.bool true]) ∧ w' = w)
  (b1 : -1000000000000000000 ≤ n * e) (b2 : n * e ≤ 1000000000000000000) (b3 : -1000000000000000000 ≤ m * d) (b4 : m * d ≤ 1000000000000000000) (b5 : 1 ≤ d * e) (b6 : d * e ≤ 1000000000000000000) (b7 : -1000000000000000000 ≤ n * m) (b8 : n * m ≤ 1000000000000000000) (ht : PTab w) :
  Calls Tryz.prog 324 #[.string ⟨la.toArray⟩,.string ⟨lb.toArray⟩] w fun x w' => x = .returned (strV (canon (mkRat (n * m) (d * e).toNat))) ∧ Kp w w' := by
 have HA := Lib.hid qa; clear qa
 have HB := Lib.hid qb; clear qb
 have HT := Lib.hid ht; clear ht
 go_enter Tryz.func324,Tryz.ntmps324
 go_wp2_with fail
 refine (HA.out w).mono ?_
 rintro x w' ⟨rfl,hw⟩
 subst hw
 go_wp2_with fail
 refine (HB.out _).mono ?_
 rintro x w' ⟨rfl,hw⟩
 subst hw
 go_wp2_with fail
 refine (lowest_rat (n * m) (d * e) _ (by omega) (by omega) (by omega) (by omega) HT.out).mono ?_
 rintro x w' ⟨rfl,hk⟩
 have HK := Lib.hid hk; clear hk
 go_wp2_with fail
 go_ret
 exact ⟨rfl,HK.out⟩
theorem rmul_rat (a b : Rat) (w : World) (ha : Sm a) (hb : Sm b) (ba : Br a) (bb : Br b) (ht : PTab w) : Calls Tryz.prog 324 #[strV (canon a),strV (canon b)] w fun e w' => e = .returned (strV (canon (a * b))) ∧ Kp w w' := by
 have d1 := a.den_pos
 have d2 := b.den_pos
 have ⟨p1,p2,p3⟩ := ha
 have ⟨q1,q2,q3⟩ := hb
 have m1 := mul_bd (a := a.num) (b := b.den) (k := 1000000000) (m := 1000000000) (by omega) (by omega) (by omega) (by omega)
 have m2 := mul_bd (a := b.num) (b := a.den) (k := 1000000000) (m := 1000000000) (by omega) (by omega) (by omega) (by omega)
 have m3 := mul_bd (a := a.den) (b := b.den) (k := 1000000000) (m := 1000000000) (by omega) (by omega) (by omega) (by omega)
 have m5 := mul_bd (a := a.num) (b := b.num) (k := 1000000000) (m := 1000000000) (by omega) (by omega) (by omega) (by omega)
 have m4 : 0 < (a.den : Int) * b.den := Int.mul_pos (by omega) (by omega)
 have h := rmul_walk (canon a) (canon b) a.num a.den b.num b.den w (fun w => brief_rs _ _ w (by omega) ba) (fun w => brief_rs _ _ w (by omega) bb) (by omega) (by omega) (by omega) (by omega) (by omega) (by omega) (by omega) (by omega) ht
 rw [Rat.mul_def']
 have : ((a.den : Int) * b.den).toNat = a.den * b.den := by rw [← Int.natCast_mul]; rfl
 rw [this] at h
 exact h
set_option maxHeartbeats 400000 in
theorem refneg_zero_walk (w : World) : Calls Tryz.prog 363 #[strV [48]] w fun e w' => e = .returned (strV [48]) ∧ w' = w := by
 go_enter Tryz.func363,Tryz.ntmps363
 go_wp2
 go_ret
 exact ⟨rfl,rfl⟩
set_option maxHeartbeats 400000 in
theorem refneg_minus_walk (r : List UInt8) (w : World) (hr : 0 < r.length) (hr2 : r.length ≤ 1000) : Calls Tryz.prog 363 #[.string ⟨(45 :: r).toArray⟩] w fun e w' => e = .returned (strV r) ∧ w' = w := by
 obtain ⟨l,hl⟩ : ∃ l,l = 45 :: r := ⟨_,rfl⟩
 have h1 : (l == [48]) = false := by rw [beq_eq_false_iff_ne,hl]; intro e; cases e
 have h2 : 0 < l.length := by rw [hl]; simp
 have h3 : ((((⟨l.toArray⟩ : ByteArray)[0]'(by rw [size_mk]; exact h2)).toNat : Int) == 45) = true := by subst hl; rfl
 have HL := Lib.hid hl
 rw [← hl]
 have h4 : l.length ≤ 1001 := by rw [hl]; simp; omega
 clear hl
 go_enter Tryz.func363,Tryz.ntmps363
 go_wp2
 go_ret
 refine ⟨?_,rfl⟩
 show Ending.returned (.string ((⟨l.toArray⟩ : ByteArray).extract 1 l.length)) = _
 rw [HL.out]
 congr 2
 apply ByteArray.ext
 simp [ByteArray.data_extract]
set_option maxHeartbeats 400000 in
theorem refneg_plus_walk (l : List UInt8) (w : World) (h1 : (l == [48]) = false) (h2 : 0 < l.length) (h3 : (((⟨l.toArray⟩ : ByteArray)[0].toNat : Int) == 45) = false) (h4 : l.length ≤ 1000) :
  Calls Tryz.prog 363 #[.string ⟨l.toArray⟩] w fun e w' => e = .returned (strV (45 :: l)) ∧ w' = w := by
 have a1 := fun w => run_string_add_sum (P := Tryz.prog) (w := w) ⟨#[45]⟩ ⟨l.toArray⟩ (by simp [ByteArray.size]; omega)
 go_enter Tryz.func363,Tryz.ntmps363
 go_wp2
 go_ret
 refine ⟨?_,rfl⟩
 show Ending.returned (.string (⟨#[45]⟩ ++ ⟨l.toArray⟩)) = _
 congr 2
theorem refneg_rs (n d : Int) (w : World) (hl : (rs n d).length ≤ 40) (h0 : n = 0 → d = 1) : Calls Tryz.prog 363 #[strV (rs n d)] w fun e w' => e = .returned (strV (rs (-n) d)) ∧ w' = w := by
 by_cases hz : n = 0
 ·obtain rfl := h0 hz
  subst hz
  rw [rs_one,show Lib.itoa 0 = [48] from itoa_zero,show -(0 : Int) = 0 from rfl,rs_one,itoa_zero]
  exact refneg_zero_walk w
 ·by_cases hn : n < 0
  ·rw [rs_neg hn]
   obtain ⟨c,r,hc,_⟩ := rs_head (n := -n) (d := d) (by omega)
   have : (rs n d).length = (rs (-n) d).length + 1 := by rw [rs_neg hn]; rfl
   exact refneg_minus_walk (rs (-n) d) w (by rw [hc]; simp) (by omega)
  ·obtain ⟨c,r,hc,hd⟩ := rs_head (n := n) (d := d) hn
   unfold isDig at hd
   rw [rs_neg (n := -n) (by omega),Int.neg_neg]
   refine refneg_plus_walk (rs n d) w ?_ (by rw [hc]; simp) ?_ (by omega)
   ·rw [beq_eq_false_iff_ne]; intro e
    rw [← itoa_zero,← rs_one] at e
    exact hz (rs_inj e).1
   ·rw [beq_eq_false_iff_ne]
    intro e
    have hz0 : 0 < (⟨(rs n d).toArray⟩ : ByteArray).size := by rw [size_mk,hc]; simp
    have hx : (⟨(rs n d).toArray⟩ : ByteArray)[0]'hz0 = c := by rw [get_mk _ 0 hz0 (by rw [hc]; simp)]; simp [hc]
    rw [hx] at e
    omega
theorem refneg_rat (a : Rat) (w : World) (ha : Sm a) : Calls Tryz.prog 363 #[strV (canon a)] w fun e w' => e = .returned (strV (canon (-a))) ∧ w' = w := by
 have hd := a.den_pos
 have := rs_len ha.lo ha.hi (d := a.den) (by omega) (by have := ha.den; omega)
 have h := refneg_rs a.num a.den w (by omega) (fun h => by
  have := a.reduced
  rw [h] at this
  have h1 : a.den = 1 := by simpa using this
  omega)
 exact h
end Go.Proofs.YtdkafeammgaknaaGreatDoor
namespace Go.Proofs.YtdkafeammgaknaaGreatDoor
open Go.RowKit Go Klp
set_option maxHeartbeats 1000000 in
theorem fsmall_neg (la lb : List UInt8) (n d g n' d' m : Int) (w : World) (la9 : la.length ≤ 9) (lb9 : lb.length ≤ 9) (ha : Lib.atoi la = some n) (hb : Lib.atoi lb = some d) (hneg : n < 0) (hm : -n = m) (hm1 : 0 ≤ m) (hm2 : m ≤ 9223372036854775807) (hn : -9223372036854775807 ≤ n) (hn' : n ≤ 9223372036854775807) (hd : 1 ≤ d) (hd' : d ≤ 9223372036854775807)
  (hg1 : 1 ≤ g) (hg2 : g ≤ d) (hgcd : (Int.gcd m d : Int) = g) (hq1 : n.tdiv g = n') (hq2 : d / g = d') (hb1 : -9223372036854775807 ≤ n') (hb2 : n' ≤ 9223372036854775807) (hb3 : 1 ≤ d') (hb4 : d' ≤ 9223372036854775807) (ht : PTab w) :
  Calls Tryz.prog 266 #[.string ⟨la.toArray⟩,.string ⟨lb.toArray⟩] w fun e w' => e = .returned (.string (ratS n' d')) ∧ Kp w w' := by
 have HA := Lib.hid ha; clear ha
 have HB := Lib.hid hb; clear hb
 have HT := Lib.hid ht; clear ht
 have HM := Lib.hid hm; clear hm
 have HGC := Lib.hid hgcd; clear hgcd
 have HQ1 := Lib.hid hq1; clear hq1
 have HQ2 := Lib.hid hq2; clear hq2
 go_enter Tryz.func266,Tryz.ntmps266
 go_wp2_with fail
 refine (Tryz.strconv_Atoi ⟨la.toArray⟩ n (by rw [size_mk]; omega) HA.out _).mono ?_
 rintro e w1 ⟨rfl,t,hw⟩
 have HK1 : Hid (Kp w w1) := Lib.hid (by rw [hw]; exact Lib.bytesWorld_below w 5 t)
 clear hw
 go_wp2_with fail
 refine (Tryz.strconv_Atoi ⟨lb.toArray⟩ d (by rw [size_mk]; omega) HB.out _).mono ?_
 rintro e w2 ⟨rfl,t2,hw⟩
 have HK2 : Hid (Kp w w2) := Lib.hid (HK1.out.then (by rw [hw]; exact Lib.bytesWorld_below w1 5 t2))
 clear hw
 go_wp2
 go_loopw [9,10] (fun a b wr => ∃ x y : Int,a = .int .i64 x ∧ b = .int .i64 y ∧ (Int.gcd x y : Int) = g ∧ 0 ≤ x ∧ x ≤ 9223372036854775807 ∧ 0 ≤ y ∧ y ≤ 9223372036854775807 ∧ Kp w wr) (fun _ b _ => (intOf b).natAbs)
 case atStart => exact ⟨m,d,by first | rw [HM.out] | rfl | (have := HM.out; simp_all),rfl,HGC.out,by omega,by omega,by omega,by omega,HK2.out⟩
 case round =>
  obtain ⟨x,y,rfl,rfl,hg,hx1,hx2,hy1,hy2,hk⟩ := hrel
  have HG := Lib.hid hg; clear hg
  have HK := Lib.hid hk; clear hk
  by_cases hy : y = 0
  ·subst hy
   obtain rfl : x = g := by have := HG.out; rw [Int.gcd_zero_right] at this; omega
   have hq1 := HQ1.out
   have hq2 := HQ2.out
   clear HG
   have hgz : (x == 0) = false := by simp; omega
   go_wp2
   go_region
   by_cases h1 : d' = 1
   ·have H1 := Lib.hid h1; clear h1
    have h1' : (d' == 1) = true := by simp [H1.out]
    go_wp2_with fail
    refine (itoa_any n' _ (by omega) (by omega) (HT.out.kp (HK.out.then (Kp.drew _)))).mono ?_
    rintro e w1 ⟨rfl,hk1⟩
    have HK1 := Lib.hid hk1; clear hk1
    go_wp2_with fail
    go_ret
    exact ⟨by rw [ratS,if_pos H1.out]; rfl,HK.out.then ((Kp.drew _).then HK1.out)⟩
   ·have H1 := Lib.hid h1; clear h1
    have h1' : (d' == 1) = false := by simp [H1.out]
    have z1 := Lib.itoa_length_le n' (by omega) (by omega)
    have z2 := Lib.itoa_length_le d' (by omega) (by omega)
    have a1 := fun w => run_string_add_sum (P := Tryz.prog) (w := w) ⟨(Lib.itoa n').toArray⟩ ⟨#[47]⟩ (by simp [ByteArray.size]; omega)
    have a2 := fun w => run_string_add_sum (P := Tryz.prog) (w := w) (⟨(Lib.itoa n').toArray⟩ ++ ⟨#[47]⟩) ⟨(Lib.itoa d').toArray⟩ (by simp [ByteArray.size]; omega)
    go_wp2_with fail
    refine (itoa_any n' _ (by omega) (by omega) (HT.out.kp (HK.out.then (Kp.drew _)))).mono ?_
    rintro e w1 ⟨rfl,hk1⟩
    have HK1 := Lib.hid hk1; clear hk1
    go_wp2_with fail
    refine (itoa_any d' _ (by omega) (by omega) (HT.out.kp (HK.out.then ((Kp.drew _).then HK1.out)))).mono ?_
    rintro e w2 ⟨rfl,hk2⟩
    have HK2 := Lib.hid hk2; clear hk2
    go_wp2_with fail
    go_ret
    exact ⟨by rw [ratS,if_neg H1.out]; rfl,(HK.out.then ((Kp.drew _).then HK1.out)).then HK2.out⟩
  ·have hy0 : (y != 0) = true := by simpa using hy
   have hyf : (y == 0) = false := by simpa using hy
   go_wp2
   go_region
   go_wp2
   go_roundw
   case rel =>
    have e : x % y = x.tmod y := (Int.tmod_eq_emod_of_nonneg hx1).symm
    have g1 := (gcd_step x y).trans HG.out
    rw [← e] at g1
    exact ⟨y,x % y,rfl,rfl,g1,hy1,hy2,Int.emod_nonneg _ hy,by have := Int.emod_lt_of_pos x (show 0 < y by omega); omega,HK.out.then (Kp.drew _)⟩
   case measure =>
    have := Int.emod_nonneg x hy
    have := Int.emod_lt_of_pos x (show 0 < y by omega)
    simp only [intOf]; omega
set_option maxHeartbeats 1000000 in
theorem fsmall_pos (la lb : List UInt8) (n d g n' d' m : Int) (w : World) (la9 : la.length ≤ 9) (lb9 : lb.length ≤ 9) (ha : Lib.atoi la = some n) (hb : Lib.atoi lb = some d) (hneg : ¬ n < 0) (hm : n = m) (hm1 : 0 ≤ m) (hm2 : m ≤ 9223372036854775807) (hn : -9223372036854775807 ≤ n) (hn' : n ≤ 9223372036854775807) (hd : 1 ≤ d) (hd' : d ≤ 9223372036854775807)
  (hg1 : 1 ≤ g) (hg2 : g ≤ d) (hgcd : (Int.gcd m d : Int) = g) (hq1 : n.tdiv g = n') (hq2 : d / g = d') (hb1 : -9223372036854775807 ≤ n') (hb2 : n' ≤ 9223372036854775807) (hb3 : 1 ≤ d') (hb4 : d' ≤ 9223372036854775807) (ht : PTab w) :
  Calls Tryz.prog 266 #[.string ⟨la.toArray⟩,.string ⟨lb.toArray⟩] w fun e w' => e = .returned (.string (ratS n' d')) ∧ Kp w w' := by
 have HA := Lib.hid ha; clear ha
 have HB := Lib.hid hb; clear hb
 have HT := Lib.hid ht; clear ht
 have HM := Lib.hid hm; clear hm
 have HGC := Lib.hid hgcd; clear hgcd
 have HQ1 := Lib.hid hq1; clear hq1
 have HQ2 := Lib.hid hq2; clear hq2
 go_enter Tryz.func266,Tryz.ntmps266
 go_wp2_with fail
 refine (Tryz.strconv_Atoi ⟨la.toArray⟩ n (by rw [size_mk]; omega) HA.out _).mono ?_
 rintro e w1 ⟨rfl,t,hw⟩
 have HK1 : Hid (Kp w w1) := Lib.hid (by rw [hw]; exact Lib.bytesWorld_below w 5 t)
 clear hw
 go_wp2_with fail
 refine (Tryz.strconv_Atoi ⟨lb.toArray⟩ d (by rw [size_mk]; omega) HB.out _).mono ?_
 rintro e w2 ⟨rfl,t2,hw⟩
 have HK2 : Hid (Kp w w2) := Lib.hid (HK1.out.then (by rw [hw]; exact Lib.bytesWorld_below w1 5 t2))
 clear hw
 go_wp2
 go_loopw [9,10] (fun a b wr => ∃ x y : Int,a = .int .i64 x ∧ b = .int .i64 y ∧ (Int.gcd x y : Int) = g ∧ 0 ≤ x ∧ x ≤ 9223372036854775807 ∧ 0 ≤ y ∧ y ≤ 9223372036854775807 ∧ Kp w wr) (fun _ b _ => (intOf b).natAbs)
 case atStart => exact ⟨m,d,by first | rw [HM.out] | rfl | (have := HM.out; simp_all),rfl,HGC.out,by omega,by omega,by omega,by omega,HK2.out⟩
 case round =>
  obtain ⟨x,y,rfl,rfl,hg,hx1,hx2,hy1,hy2,hk⟩ := hrel
  have HG := Lib.hid hg; clear hg
  have HK := Lib.hid hk; clear hk
  by_cases hy : y = 0
  ·subst hy
   obtain rfl : x = g := by have := HG.out; rw [Int.gcd_zero_right] at this; omega
   have hq1 := HQ1.out
   have hq2 := HQ2.out
   clear HG
   have hgz : (x == 0) = false := by simp; omega
   go_wp2
   go_region
   by_cases h1 : d' = 1
   ·have H1 := Lib.hid h1; clear h1
    have h1' : (d' == 1) = true := by simp [H1.out]
    go_wp2_with fail
    refine (itoa_any n' _ (by omega) (by omega) (HT.out.kp (HK.out.then (Kp.drew _)))).mono ?_
    rintro e w1 ⟨rfl,hk1⟩
    have HK1 := Lib.hid hk1; clear hk1
    go_wp2_with fail
    go_ret
    exact ⟨by rw [ratS,if_pos H1.out]; rfl,HK.out.then ((Kp.drew _).then HK1.out)⟩
   ·have H1 := Lib.hid h1; clear h1
    have h1' : (d' == 1) = false := by simp [H1.out]
    have z1 := Lib.itoa_length_le n' (by omega) (by omega)
    have z2 := Lib.itoa_length_le d' (by omega) (by omega)
    have a1 := fun w => run_string_add_sum (P := Tryz.prog) (w := w) ⟨(Lib.itoa n').toArray⟩ ⟨#[47]⟩ (by simp [ByteArray.size]; omega)
    have a2 := fun w => run_string_add_sum (P := Tryz.prog) (w := w) (⟨(Lib.itoa n').toArray⟩ ++ ⟨#[47]⟩) ⟨(Lib.itoa d').toArray⟩ (by simp [ByteArray.size]; omega)
    go_wp2_with fail
    refine (itoa_any n' _ (by omega) (by omega) (HT.out.kp (HK.out.then (Kp.drew _)))).mono ?_
    rintro e w1 ⟨rfl,hk1⟩
    have HK1 := Lib.hid hk1; clear hk1
    go_wp2_with fail
    refine (itoa_any d' _ (by omega) (by omega) (HT.out.kp (HK.out.then ((Kp.drew _).then HK1.out)))).mono ?_
    rintro e w2 ⟨rfl,hk2⟩
    have HK2 := Lib.hid hk2; clear hk2
    go_wp2_with fail
    go_ret
    exact ⟨by rw [ratS,if_neg H1.out]; rfl,(HK.out.then ((Kp.drew _).then HK1.out)).then HK2.out⟩
  ·have hy0 : (y != 0) = true := by simpa using hy
   have hyf : (y == 0) = false := by simpa using hy
   go_wp2
   go_region
   go_wp2
   go_roundw
   case rel =>
    have e : x % y = x.tmod y := (Int.tmod_eq_emod_of_nonneg hx1).symm
    have g1 := (gcd_step x y).trans HG.out
    rw [← e] at g1
    exact ⟨y,x % y,rfl,rfl,g1,hy1,hy2,Int.emod_nonneg _ hy,by have := Int.emod_lt_of_pos x (show 0 < y by omega); omega,HK.out.then (Kp.drew _)⟩
   case measure =>
    have := Int.emod_nonneg x hy
    have := Int.emod_lt_of_pos x (show 0 < y by omega)
    simp only [intOf]; omega
theorem fsmall_rat (n d : Int) (w : World) (hn : -100000000 < n) (hn' : n < 1000000000) (hd : 1 ≤ d) (hd' : d < 1000000000) (ht : PTab w) :
  Calls Tryz.prog 266 #[strV (Lib.itoa n),strV (Lib.itoa d)] w fun e w' => e = .returned (strV (canon (mkRat n d.toNat))) ∧ Kp w w' := by
 have hg0 : 0 < Int.gcd n d := Int.gcd_pos_of_ne_zero_right _ (by omega)
 have hgd : (Int.gcd n d : Int) ∣ d := Int.gcd_dvd_right ..
 have hgn : (Int.gcd n d : Int) ∣ n := Int.gcd_dvd_left ..
 have hle : (Int.gcd n d : Int) ≤ d := Int.le_of_dvd (by omega) hgd
 obtain ⟨a,ha⟩ := hgn
 obtain ⟨b,hb⟩ := hgd
 generalize hgg : (Int.gcd n d : Int) = g at *
 have hg1 : 1 ≤ g := by omega
 have q1 : n.tdiv g = a := by rw [ha]; exact Int.mul_tdiv_cancel_left _ (by omega)
 have q2 : d / g = b := by rw [hb]; exact Int.mul_ediv_cancel_left _ (by omega)
 have hab : a.natAbs ≤ n.natAbs := by
  rw [ha,Int.natAbs_mul]
  exact Nat.le_mul_of_pos_left _ (by omega)
 have hb1 : 1 ≤ b := by
  rcases Int.lt_or_le b 1 with h | h
  ·exfalso
   have : g * b ≤ 0 := Int.mul_nonpos_of_nonneg_of_nonpos (by omega) (by omega)
   omega
  ·exact h
 have hb2 : b ≤ d := by
  have : 1 * b ≤ g * b := Int.mul_le_mul_of_nonneg_right hg1 (by omega)
  omega
 have p9 : (10 : Nat) ^ 9 = 1000000000 := by decide
 have p8 : (10 : Nat) ^ 8 = 100000000 := by decide
 have l2 : (Lib.itoa d).length ≤ 9 := by
  rw [itoa_pos' (by omega)]
  exact dec_len (by omega) (by omega)
 have l1 : (Lib.itoa n).length ≤ 9 := by
  by_cases h : n < 0
  ·rw [itoa_neg' h]
   have := dec_len (u := n.natAbs) (k := 8) (by omega) (by omega)
   simp; omega
  ·rw [itoa_pos' h]
   exact dec_len (by omega) (by omega)
 have fin : ratS a b = ⟨(canon (mkRat n d.toNat)).toArray⟩ := by
  rw [ratS_eq]
  have hdn : d.toNat ≠ 0 := by omega
  have hgcd : ((d.toNat.gcd n.natAbs : Nat) : Int) = g := by
   rw [← hgg]
   unfold Int.gcd
   rw [Nat.gcd_comm,show d.toNat = d.natAbs from by omega]
  have e1 : (mkRat n d.toNat).num = a := by
   rw [Rat.num_mkRat,if_neg hdn,hgcd,ha]; exact Int.mul_ediv_cancel_left _ (by omega)
  have e2 : ((mkRat n d.toNat).den : Int) = b := by
   rw [Rat.den_mkRat,if_neg hdn,Int.natCast_ediv,hgcd,show ((d.toNat : Nat) : Int) = d from by omega]; exact q2
  unfold canon
  rw [e1,e2]
 by_cases h : n < 0
 ·have hgm : (Int.gcd (-n) d : Int) = g := by rw [← hgg]; unfold Int.gcd; simp
  refine (fsmall_neg _ _ n d g a b (-n) w l1 l2 (atoi_itoa n) (atoi_itoa d) h rfl (by omega) (by omega) (by omega) (by omega) hd (by omega) hg1 hle hgm q1 q2 (by omega) (by omega) hb1 (by omega) ht).mono ?_
  rintro e w' ⟨rfl,hk⟩
  exact ⟨by rw [fin],hk⟩
 ·refine (fsmall_pos _ _ n d g a b n w l1 l2 (atoi_itoa n) (atoi_itoa d) h rfl (by omega) (by omega) (by omega) (by omega) hd (by omega) hg1 hle hgg q1 q2 (by omega) (by omega) hb1 (by omega) ht).mono ?_
  rintro e w' ⟨rfl,hk⟩
  exact ⟨by rw [fin],hk⟩
set_option maxHeartbeats 400000 in
theorem fraction_walk (la lb lr : List UInt8) (w : World) (h1 : la.length ≤ 9) (h2 : lb.length ≤ 9) (ht : PTab w)
  (hs : ∀ w,PTab w → Calls Tryz.prog 266 #[.string ⟨la.toArray⟩,.string ⟨lb.toArray⟩] w fun e w' => e = .returned (strV lr) ∧ Kp w w') :
  Calls Tryz.prog 184 #[.string ⟨la.toArray⟩,.string ⟨lb.toArray⟩] w fun e w' => e = .returned (strV lr) ∧ Kp w w' := by
 have HS := Lib.hid hs; clear hs
 have HT := Lib.hid ht; clear ht
 have k1 : decide ((la.length : Int) ≤ 9) = true := by simp; omega
 have k2 : decide ((lb.length : Int) ≤ 9) = true := by simp; omega
 go_enter Tryz.func184,Tryz.ntmps184
 go_wp2_with fail
 refine (HS.out _ HT.out).mono ?_
 rintro e w' ⟨rfl,hk⟩
 have HK := Lib.hid hk; clear hk
 go_wp2_with fail
 go_ret
 exact ⟨rfl,HK.out⟩
set_option maxHeartbeats 400000 in
theorem rOfInt (n : Int) (w : World) (h0 : -9223372036854775808 ≤ n) (h1 : n ≤ 9223372036854775807) (ht : PTab w) : Calls Tryz.prog 185 #[.int .i64 n] w fun e w' => e = .returned (strV (Lib.itoa n)) ∧ Kp w w' := by
 have HT := Lib.hid ht; clear ht
 go_enter Tryz.func185,Tryz.ntmps185
 go_wp2_with fail
 refine (itoa_any n _ h0 h1 HT.out).mono ?_
 rintro e w' ⟨rfl,hk⟩
 have HK := Lib.hid hk; clear hk
 go_wp2_with fail
 go_ret
 exact ⟨rfl,HK.out⟩
set_option maxHeartbeats 400000 in
theorem rof_walk (n d : Int) (la lb lr : List UInt8) (w : World) (ht : PTab w)
  (ha : ∀ w,PTab w → Calls Tryz.prog 185 #[.int .i64 n] w fun e w' => e = .returned (strV la) ∧ Kp w w')
  (hb : ∀ w,PTab w → Calls Tryz.prog 185 #[.int .i64 d] w fun e w' => e = .returned (strV lb) ∧ Kp w w')
  (hf : ∀ w,PTab w → Calls Tryz.prog 184 #[.string ⟨la.toArray⟩,.string ⟨lb.toArray⟩] w fun e w' => e = .returned (strV lr) ∧ Kp w w') :
  Calls Tryz.prog 116 #[.int .i64 n,.int .i64 d] w fun e w' => e = .returned (strV lr) ∧ Kp w w' := by
 have HT := Lib.hid ht; clear ht
 have HA := Lib.hid ha; clear ha
 have HB := Lib.hid hb; clear hb
 have HF := Lib.hid hf; clear hf
 go_enter Tryz.func116,Tryz.ntmps116
 go_wp2_with fail
 refine (HA.out _ HT.out).mono ?_
 rintro e w1 ⟨rfl,hk⟩
 have HK1 := Lib.hid hk; clear hk
 go_wp2_with fail
 refine (HB.out _ (HT.out.kp HK1.out)).mono ?_
 rintro e w2 ⟨rfl,hk⟩
 have HK2 : Hid (Kp w w2) := Lib.hid (HK1.out.then hk); clear hk
 go_wp2_with fail
 refine (HF.out _ (HT.out.kp HK2.out)).mono ?_
 rintro e w3 ⟨rfl,hk⟩
 have HK3 : Hid (Kp w w3) := Lib.hid (HK2.out.then hk); clear hk
 go_wp2_with fail
 go_ret
 exact ⟨rfl,HK3.out⟩
theorem rof_rat (n d : Int) (w : World) (hn : -100000000 < n) (hn' : n < 1000000000) (hd : 1 ≤ d) (hd' : d < 1000000000) (ht : PTab w) :
  Calls Tryz.prog 116 #[.int .i64 n,.int .i64 d] w fun e w' => e = .returned (strV (canon (mkRat n d.toNat))) ∧ Kp w w' := by
 have p8 : (10 : Nat) ^ 8 = 100000000 := by decide
 have p9 : (10 : Nat) ^ 9 = 1000000000 := by decide
 have l2 : (Lib.itoa d).length ≤ 9 := by
  rw [itoa_pos' (by omega)]
  exact dec_len (by omega) (by omega)
 have l1 : (Lib.itoa n).length ≤ 9 := by
  by_cases h : n < 0
  ·rw [itoa_neg' h]
   have := dec_len (u := n.natAbs) (k := 8) (by omega) (by omega)
   simp; omega
  ·rw [itoa_pos' h]
   exact dec_len (by omega) (by omega)
 exact rof_walk n d _ _ _ w ht (fun w h => rOfInt n w (by omega) (by omega) h) (fun w h => rOfInt d w (by omega) (by omega) h)
  (fun w h => fraction_walk _ _ _ w l1 l2 h fun w h => fsmall_rat n d w hn hn' hd hd' h)
end Go.Proofs.YtdkafeammgaknaaGreatDoor
namespace Go.Proofs.YtdkafeammgaknaaGreatDoor
open Go.RowKit Go Klp
set_option maxHeartbeats 400000 in
theorem rlow_walk1 (la lb lr : List UInt8) (w : World) (ht : PTab w)
  (hs : ∀ w,Calls Tryz.prog 149 #[.string ⟨lb.toArray⟩] w fun e w' => e = .returned (.int .i64 1) ∧ w' = w)
  (hg : ∀ w,PTab w → Calls Tryz.prog 100 #[.string ⟨la.toArray⟩,.string ⟨lb.toArray⟩] w fun e w' => e = .returned (.string ⟨#[49]⟩) ∧ Kp w w')
  (hj : ∀ w,Calls Tryz.prog 106 #[.string ⟨la.toArray⟩,.string ⟨lb.toArray⟩] w fun e w' => e = .returned (strV lr) ∧ w' = w) :
  Calls Tryz.prog 92 #[.string ⟨la.toArray⟩,.string ⟨lb.toArray⟩] w fun e w' => e = .returned (strV lr) ∧ Kp w w' := by
 have HT := Lib.hid ht; clear ht
 have HS := Lib.hid hs; clear hs
 have HG := Lib.hid hg; clear hg
 have HJ := Lib.hid hj; clear hj
 go_enter Tryz.func92,Tryz.ntmps92
 go_wp2_with fail
 refine (HS.out _).mono ?_
 rintro e w' ⟨rfl,hw⟩
 subst hw
 go_wp2_with fail
 refine (HG.out _ HT.out).mono ?_
 rintro e w1 ⟨rfl,hk⟩
 have HK := Lib.hid hk; clear hk
 go_wp2_with fail
 refine (HJ.out _).mono ?_
 rintro e w' ⟨rfl,hw⟩
 subst hw
 go_wp2_with fail
 go_ret
 exact ⟨rfl,HK.out⟩
set_option maxHeartbeats 400000 in
theorem rlow_walk2 (la lb g na nb ra rb lr : List UInt8) (w : World) (ht : PTab w) (hg1 : (g == [49]) = false)
  (hs : ∀ w,Calls Tryz.prog 149 #[.string ⟨lb.toArray⟩] w fun e w' => e = .returned (.int .i64 1) ∧ w' = w)
  (hg : ∀ w,PTab w → Calls Tryz.prog 100 #[.string ⟨la.toArray⟩,.string ⟨lb.toArray⟩] w fun e w' => e = .returned (strV g) ∧ Kp w w')
  (ha : ∀ w1,Kp w w1 → Calls Tryz.prog 150 #[.string ⟨la.toArray⟩,.string ⟨g.toArray⟩] w1 fun e w' => e = .returned (.tuple #[strV na,strV ra,.int .i64 0]) ∧ Kp w1 w')
  (hb : ∀ w1,Kp w w1 → Calls Tryz.prog 150 #[.string ⟨lb.toArray⟩,.string ⟨g.toArray⟩] w1 fun e w' => e = .returned (.tuple #[strV nb,strV rb,.int .i64 0]) ∧ Kp w1 w')
  (hj : ∀ w,Calls Tryz.prog 106 #[.string ⟨na.toArray⟩,.string ⟨nb.toArray⟩] w fun e w' => e = .returned (strV lr) ∧ w' = w) :
  Calls Tryz.prog 92 #[.string ⟨la.toArray⟩,.string ⟨lb.toArray⟩] w fun e w' => e = .returned (strV lr) ∧ Kp w w' := by
 have HT := Lib.hid ht; clear ht
 have HS := Lib.hid hs; clear hs
 have HG := Lib.hid hg; clear hg
 have HA := Lib.hid ha; clear ha
 have HB := Lib.hid hb; clear hb
 have HJ := Lib.hid hj; clear hj
 go_enter Tryz.func92,Tryz.ntmps92
 go_wp2_with fail
 refine (HS.out _).mono ?_
 rintro e w' ⟨rfl,hw⟩
 subst hw
 go_wp2_with fail
 refine (HG.out _ HT.out).mono ?_
 rintro e w1 ⟨rfl,hk⟩
 have HK := Lib.hid hk; clear hk
 go_wp2_with fail
 refine (HA.out _ HK.out).mono ?_
 rintro e w2 ⟨rfl,hk⟩
 have HK2 : Hid (Kp w' w2) := Lib.hid (HK.out.then hk); clear hk
 go_wp2_with fail
 refine (HB.out _ HK2.out).mono ?_
 rintro e w3 ⟨rfl,hk⟩
 have HK3 : Hid (Kp w' w3) := Lib.hid (HK2.out.then hk); clear hk
 go_wp2_with fail
 refine (HJ.out _).mono ?_
 rintro e w4 ⟨rfl,hw⟩
 subst hw
 go_wp2_with fail
 go_ret
 exact ⟨rfl,HK3.out⟩
set_option maxHeartbeats 400000 in
theorem new_walk (la lb lr : List UInt8) (w : World)
  (hs : ∀ w,Calls Tryz.prog 149 #[.string ⟨lb.toArray⟩] w fun e w' => e = .returned (.int .i64 1) ∧ w' = w)
  (hl : Calls Tryz.prog 92 #[.string ⟨la.toArray⟩,.string ⟨lb.toArray⟩] w fun e w' => e = .returned (strV lr) ∧ Kp w w') :
  Calls Tryz.prog 176 #[.string ⟨la.toArray⟩,.string ⟨lb.toArray⟩] w fun e w' => e = .returned (.tuple #[strV lr,.int .i64 0]) ∧ Kp w w' := by
 have HS := Lib.hid hs; clear hs
 have HL := Lib.hid hl; clear hl
 go_enter Tryz.func176,Tryz.ntmps176
 go_wp2_with fail
 refine (HS.out _).mono ?_
 rintro e w' ⟨rfl,hw⟩
 subst hw
 go_wp2_with fail
 refine HL.out.mono ?_
 rintro e w1 ⟨rfl,hk⟩
 have HK := Lib.hid hk; clear hk
 go_wp2_with fail
 go_ret2
 exact ⟨rfl,HK.out⟩
set_option maxHeartbeats 400000 in
theorem ofi_walk (n d : Int) (la lb lr : List UInt8) (w : World) (ht : PTab w)
  (ha : ∀ w,PTab w → Calls Tryz.prog 59 #[.int .i64 n] w fun e w' => e = .returned (strV la) ∧ Kp w w')
  (hb : ∀ w,PTab w → Calls Tryz.prog 59 #[.int .i64 d] w fun e w' => e = .returned (strV lb) ∧ Kp w w')
  (hn : ∀ w1,Kp w w1 → Calls Tryz.prog 176 #[.string ⟨la.toArray⟩,.string ⟨lb.toArray⟩] w1 fun e w' => e = .returned (.tuple #[strV lr,.int .i64 0]) ∧ Kp w1 w') :
  Calls Tryz.prog 179 #[.int .i64 n,.int .i64 d] w fun e w' => e = .returned (.tuple #[strV lr,.int .i64 0]) ∧ Kp w w' := by
 have HT := Lib.hid ht; clear ht
 have HA := Lib.hid ha; clear ha
 have HB := Lib.hid hb; clear hb
 have HN := Lib.hid hn; clear hn
 go_enter Tryz.func179,Tryz.ntmps179
 go_wp2_with fail
 refine (HA.out _ HT.out).mono ?_
 rintro e w1 ⟨rfl,hk⟩
 have HK1 := Lib.hid hk; clear hk
 go_wp2_with fail
 refine (HB.out _ (HT.out.kp HK1.out)).mono ?_
 rintro e w2 ⟨rfl,hk⟩
 have HK2 : Hid (Kp w w2) := Lib.hid (HK1.out.then hk); clear hk
 go_wp2_with fail
 refine (HN.out _ HK2.out).mono ?_
 rintro e w3 ⟨rfl,hk⟩
 have HK3 : Hid (Kp w w3) := Lib.hid (HK2.out.then hk); clear hk
 go_wp2_with fail
 go_ret2
 exact ⟨rfl,HK3.out⟩
theorem of_coprime (n d : Int) (w : World) (h1 : -1000000000 < n) (h2 : n < 1000000000) (h3 : 0 < d) (h4 : d < 1000000000) (hg : Int.gcd n d = 1) (ht : PTab w) :
  Calls Tryz.prog 179 #[.int .i64 n,.int .i64 d] w fun e w' => e = .returned (.tuple #[strV (canon (mkRat n d.toNat)),.int .i64 0]) ∧ Kp w w' := by
 have l1 := itoa_len18 h1 h2
 have l2 := itoa_len18 (n := d) (by omega) h4
 have hs : ∀ w,Calls Tryz.prog 149 #[.string ⟨(Lib.itoa d).toArray⟩] w fun e w' => e = .returned (.int .i64 1) ∧ w' = w := fun w =>
  (sign_itoa d w).mono fun e w' ⟨a,b⟩ => ⟨by rw [a,if_neg (by omega),if_neg (by omega)],b⟩
 have hdn : d.toNat ≠ 0 := by omega
 have hgc : d.toNat.gcd n.natAbs = 1 := by
  have : Int.gcd n d = n.natAbs.gcd d.natAbs := rfl
  rw [Nat.gcd_comm,show d.toNat = d.natAbs from by omega,← this,hg]
 have e : canon (mkRat n d.toNat) = rs n d := by
  unfold canon
  rw [Rat.num_mkRat,Rat.den_mkRat,if_neg hdn,if_neg hdn,hgc]
  simp only [Int.natCast_one,Int.ediv_one,Nat.div_one]
  rw [show ((d.toNat : Nat) : Int) = d from by omega]
 rw [e]
 refine ofi_walk n d _ _ _ w ht (fun w h => of_any n w (by omega) (by omega) h) (fun w h => of_any d w (by omega) (by omega) h) fun w1 hk => ?_
 refine new_walk _ _ _ w1 hs ?_
 refine rlow_walk1 _ _ _ w1 (ht.kp hk) hs (fun w h => ?_) (fun w => join_itoa n d w (by omega) (by omega))
 refine (gcd_itoa n d w h1 h2 (by omega) h4 h).mono fun e w' ⟨a,b⟩ => ⟨?_,b⟩
 rw [a,hg]
 show Ending.returned (strV (Lib.itoa 1)) = _
 rw [itoa_one]
theorem of_even (m : Int) (w : World) (h1 : -400000000 < m) (h2 : m < 400000000) (ht : PTab w) {ra rb : List UInt8}
  (ha : ∀ w1,Kp w w1 → Calls Tryz.prog 150 #[strV (Lib.itoa (2 * m)),strV [50]] w1 fun e w' => e = .returned (.tuple #[strV (Lib.itoa m),strV ra,.int .i64 0]) ∧ Kp w1 w')
  (hb : ∀ w1,Kp w w1 → Calls Tryz.prog 150 #[strV [50],strV [50]] w1 fun e w' => e = .returned (.tuple #[strV [49],strV rb,.int .i64 0]) ∧ Kp w1 w') :
  Calls Tryz.prog 179 #[.int .i64 (2 * m),.int .i64 2] w fun e w' => e = .returned (.tuple #[strV (Lib.itoa m),.int .i64 0]) ∧ Kp w w' := by
 have i2 : Lib.itoa 2 = [50] := by rw [itoa_pos' (by omega)]; exact dec_small (by omega)
 have hs : ∀ w,Calls Tryz.prog 149 #[.string ⟨([50] : List UInt8).toArray⟩] w fun e w' => e = .returned (.int .i64 1) ∧ w' = w := fun w => by
  have := sign_itoa 2 w
  rw [i2] at this
  exact this
 refine ofi_walk (2 * m) 2 (Lib.itoa (2 * m)) [50] _ w ht (fun w h => of_any (2 * m) w (by omega) (by omega) h) (fun w h => by have := of_any 2 w (by omega) (by omega) h; rw [i2] at this; exact this) fun w1 hk => ?_
 refine new_walk _ _ _ w1 hs ?_
 refine rlow_walk2 _ _ [50] (Lib.itoa m) [49] ra rb _ w1 (ht.kp hk) (by decide) hs (fun w h => ?_) (fun w2 h => ha w2 (hk.then h)) (fun w2 h => hb w2 (hk.then h)) (fun w => ?_)
 ·have := gcd_itoa (2 * m) 2 w (by omega) (by omega) (by omega) (by omega) h
  have hg : Int.gcd (2 * m) 2 = 2 := by
   unfold Int.gcd
   rw [Int.natAbs_mul]
   exact Nat.gcd_eq_right (Nat.dvd_mul_right 2 _)
  rw [hg,i2] at this
  refine this.mono fun e w' ⟨a,b⟩ => ⟨?_,b⟩
  rw [a]
  show Ending.returned (strV (Lib.itoa 2)) = _
  rw [i2]
 ·have := join_itoa m 1 w (by have := itoa_len18 (n := m) (by omega) (by omega); omega) (by rw [itoa_one]; simp)
  rw [itoa_one,rs_one] at this
  exact this
end Go.Proofs.YtdkafeammgaknaaGreatDoor
