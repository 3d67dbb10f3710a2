/-
  klippe/klipperef01 at the texts of integers of any length: Add, Sub, Sign, Compare with one.
-/
import Derived.Test.YtjcfejncjdhplaaGreatDoorBigK
import Derived.Test.YtjcfejncjdhplaaGreatDoorWkRight
set_option linter.unusedSectionVars false
set_option linter.unusedVariables false
set_option linter.unusedSimpArgs false
namespace Go.Proofs.YtjcfejncjdhplaaGreatDoor
open Go.RowKit Go Klp
theorem itoa_nat (n : Int) (h : 0 ≤ n) : Lib.itoa n = Lib.decDigits n.toNat := by rw [itoa_pos' (by omega)]; congr 1; omega
theorem itoa_tenk {x : Int} (h0 : 0 ≤ x) (h1 : x < 10000) : Lib.itoa (10000 + x) = 49 :: pad 4 x.toNat := by
  rw [itoa_nat _ (by omega), show (10000 + x).toNat = 10 ^ 4 + x.toNat from by omega]
  exact dec_one_pad 4 _ (by omega)
theorem extract_tail (c : UInt8) (l : List UInt8) (n : Nat) (hn : n = l.length + 1) : (⟨(c :: l).toArray⟩ : ByteArray).extract 1 n = ⟨l.toArray⟩ := by
  subst hn
  apply ByteArray.ext
  simp [ByteArray.data_extract]
theorem pc_drop {B : Int} {l : List Int} (h : Pc B l) (n : Nat) : Pc B (l.drop n) := by
  refine ⟨h.1.drop n, fun x hx => ?_⟩
  rw [List.getLast?_drop] at hx
  split at hx
  · cases hx
  · exact h.2 x hx
theorem pv_drop_pos {l : List Int} (h : Pc 10000 l) {n : Nat} (hn : n < l.length) : 0 < pv 10000 (l.drop n) := by
  have h1 := (pc_drop h n).ge (B := 10000) (by omega) (by rw [List.length_drop]; omega)
  have h2 := ipow_pos (B := 10000) (by omega) ((l.drop n).length - 1)
  omega
theorem dec_short {l : List Int} (h : Pc 10000 l) {k : Nat} (hk : 1 ≤ k) (hl : l.length ≤ k) (n : Nat) : (Lib.decDigits (pv 10000 (l.drop n)).toNat).length ≤ 4 * k := by
  refine dec_len (by omega) ?_
  have h1 := pv_lt (B := 10000) (by omega) (h.1.drop n)
  have h2 : (10000 : Int) ^ (l.drop n).length ≤ 10000 ^ k := ipow_le (by omega) (by rw [List.length_drop]; omega)
  have h3 : (10000 : Int) ^ k = ((10 ^ (4 * k) : Nat) : Int) := by
    rw [Int.natCast_pow, Int.pow_mul]
    rfl
  have h4 := pv_nn (B := 10000) (by omega) (h.1.drop n)
  omega
set_option maxRecDepth 100000 in
set_option maxHeartbeats 2000000 in
theorem give_walk (l : List Int) (v : Value) (w : World) (hl : l.length ≤ 1000) (h : Sls w .i64 v l) (pc : Pc 10000 l) (hn : 0 < l.length) (ht : PTab w) :
    Calls Tryz.prog 241 #[v] w fun e w' => e = .returned (.string ⟨(Lib.decDigits (pv 10000 l).toNat).toArray⟩) ∧ Kp w w' := by
  obtain ⟨ao, cap, rfl, hcap⟩ := h.val
  obtain ⟨b, o, rfl⟩ := h.addr hn
  have hlast := h.cells (Kp.refl w) (i := l.length - 1) (by omega)
  have hld := pc.1.at (i := l.length - 1) (by omega)
  have HS := Lib.hid h; clear h
  have HP := Lib.hid pc; clear pc
  have HT := Lib.hid ht; clear ht
  have hne : ((l.length : Int) == 0) = false := by rw [beq_eq_false_iff_ne]; omega
  go_enter Tryz.func241, Tryz.ntmps241
  go_wp2_with fail
  refine (itoa_any l[l.length - 1] _ (by omega) (by omega) HT.out).mono ?_
  rintro e w1 ⟨rfl, hk⟩
  have HK1 := Lib.hid hk; clear hk
  go_wp2_with fail
  go_loopw [3, 4] (fun so si wr => ∃ n : Nat, n < l.length ∧ si = .int .i64 ((n : Int) - 1) ∧ so = .string ⟨(Lib.decDigits (pv 10000 (l.drop n)).toNat).toArray⟩ ∧ Kp w wr) (fun _ si _ => (intOf si + 1).toNat)
  case atStart =>
    refine ⟨l.length - 1, by omega, by congr 1; omega, ?_, HK1.out⟩
    rw [itoa_nat _ hld.1, pv_drop 10000 l (l.length - 1) (by omega), List.drop_eq_nil_of_le (by omega)]
    simp [pv]
  case round =>
    obtain ⟨n, hnl, rfl, rfl, hk⟩ := hrel
    have HK := Lib.hid hk; clear hk
    cases n with
    | zero =>
      go_wp2_with fail
      go_ret
      exact ⟨by first | rfl | (rw [List.drop_zero]; rfl), HK.out⟩
    | succ j =>
      have e1 : ((j + 1 : Nat) : Int) - 1 = (j : Int) := by omega
      rw [e1]
      have ga := HS.out.cells HK.out (i := j) (by omega)
      have hlj := HP.out.1.at (i := j) (by omega)
      have hds := dec_short HP.out (k := 1000) (by omega) hl (j + 1)
      have hit := itoa_tenk hlj.1 hlj.2
      have hpl := pad_len 4 (l[j]).toNat
      have hdp := dec_piece (B := 10000) (k := 4) (by decide) (l := l) (i := j) (by omega) HP.out.1 (pv_drop_pos HP.out hnl)
      have HDP := Lib.hid hdp
      have HIT := Lib.hid hit
      clear hdp hit e1
      generalize Lib.decDigits (pv 10000 (l.drop (j + 1))).toNat = A at *
      go_wp2_with fail
      refine (itoa_any (10000 + l[j]) _ (by omega) (by omega) (HT.out.kp HK.out)).mono ?_
      rintro e w2 ⟨rfl, hk2⟩
      rw [HIT.out]
      have HK2 := Lib.hid (HK.out.then hk2); clear hk2
      generalize pad 4 (l[j]).toNat = Bs at *
      have a1 := fun w => run_string_add_sum (P := Tryz.prog) (w := w) ⟨A.toArray⟩ ⟨Bs.toArray⟩ (by simp [ByteArray.size]; omega)
      have hx1 := extract_tail 49 Bs 5 (by omega)
      go_wp2_with fail
      go_roundw
      case rel =>
        refine ⟨j, by omega, rfl, ?_, HK2.out⟩
        rw [HDP.out]
        exact congrArg Value.string (by apply ByteArray.ext; simp)
      case measure => simp only [intOf]; omega
set_option maxHeartbeats 1000000 in
theorem give_zero (ao : Option Addr) (cap : Nat) (w : World) : Calls Tryz.prog 241 #[.slice ao 0 cap] w fun e w' => e = .returned (.string ⟨(Lib.decDigits 0).toArray⟩) ∧ Kp w w' := by
  go_enter Tryz.func241, Tryz.ntmps241
  go_wp2_with fail
  go_ret
  exact ⟨by rw [dec_zero]; rfl, Kp.refl _⟩
set_option maxRecDepth 100000 in
set_option maxHeartbeats 2000000 in
theorem made_walk (l : List Int) (v : Value) (m : Bool) (w : World) (hl : l.length ≤ 1000) (h : Sls w .i64 v l) (hd : Dg 10000 l) (ht : PTab w) :
    Calls Tryz.prog 169 #[.bool m, v] w fun e w' => e = .returned (.string ⟨(Lib.itoa (if m then -pv 10000 l else pv 10000 l)).toArray⟩) ∧ Kp w w' := by
  have HS := Lib.hid h; clear h
  have HD := Lib.hid hd; clear hd
  have HT := Lib.hid ht; clear ht
  go_enter Tryz.func169, Tryz.ntmps169
  go_wp2_with fail
  refine (cut_walk l _ _ (by omega) HD.out HS.out).mono ?_
  rintro e w1 ⟨v1, rfl, hp, _, hk⟩
  obtain ⟨l1, hs1, hc1, hv1⟩ := hp
  obtain ⟨a1, c1, rfl, hcap1⟩ := hs1.val
  have H1 := Lib.hid (And.intro hs1 (And.intro hc1 hv1))
  have HK := Lib.hid hk
  clear hs1 hc1 hv1 hk
  by_cases h0 : l1.length = 0
  · have hl1 : l1 = [] := List.eq_nil_of_length_eq_zero h0
    have hz : pv 10000 l = 0 := by rw [← H1.out.2.2, hl1]; rfl
    have HZ := Lib.hid hz
    rw [h0]
    clear hz
    have e0 : ∀ w : World, Calls Tryz.prog 241 #[.slice a1 0 c1] w fun e w' => e = .returned (.string ⟨(Lib.decDigits 0).toArray⟩) ∧ Kp w w' := fun w => give_zero a1 c1 w
    have HG := Lib.hid e0
    clear e0
    cases m
    · go_wp2_with fail
      refine (HG.out _).mono ?_
      rintro e w2 ⟨rfl, hk2⟩
      have HK2 := Lib.hid (HK.out.then hk2); clear hk2
      go_wp2_with fail
      go_ret
      exact ⟨by rw [HZ.out]; rfl, HK2.out⟩
    · go_wp2_with fail
      refine (HG.out _).mono ?_
      rintro e w2 ⟨rfl, hk2⟩
      have HK2 := Lib.hid (HK.out.then hk2); clear hk2
      go_wp2_with fail
      go_ret
      exact ⟨by rw [HZ.out]; rfl, HK2.out⟩
  · have hpos : 0 < l1.length := by omega
    have hll : l1.length ≤ 1000 := by
      rcases Nat.lt_or_ge 1000 l1.length with h | h
      · exfalso
        have h1 := H1.out.2.1.ge (B := 10000) (by omega) hpos
        have h2 := pv_lt (B := 10000) (by omega) HD.out
        have h3 : (10000 : Int) ^ l.length ≤ 10000 ^ (l1.length - 1) := ipow_le (by omega) (by omega)
        rw [H1.out.2.2] at h1
        omega
      · exact h
    have hvp : 0 < pv 10000 l1 := by have := pv_drop_pos H1.out.2.1 (n := 0) hpos; rwa [List.drop_zero] at this
    have hgv : ∀ w, PTab w → Kp w1 w → Calls Tryz.prog 241 #[.slice a1 l1.length c1] w fun e w' => e = .returned (.string ⟨(Lib.decDigits (pv 10000 l).toNat).toArray⟩) ∧ Kp w w' := fun w ht hkk => by
      have := give_walk l1 _ w hll (H1.out.1.kp hkk) H1.out.2.1 hpos ht
      rw [H1.out.2.2] at this
      exact this
    have hlen := dec_short H1.out.2.1 (k := 1000) (by omega) hll 0
    rw [List.drop_zero, H1.out.2.2] at hlen
    have HG := Lib.hid hgv
    rw [H1.out.2.2] at hvp
    have HVP := Lib.hid hvp
    have a2 := fun w => run_string_add_sum (P := Tryz.prog) (w := w) ⟨#[45]⟩ ⟨(Lib.decDigits (pv 10000 l).toNat).toArray⟩ (by simp [ByteArray.size]; omega)
    clear hgv hvp hlen
    cases m
    · go_wp2_with fail
      refine (HG.out _ (HT.out.kp HK.out) (Kp.refl _)).mono ?_
      rintro e w2 ⟨rfl, hk2⟩
      have HK2 := Lib.hid (HK.out.then hk2); clear hk2
      go_wp2_with fail
      go_ret
      exact ⟨by rw [itoa_nat _ (by have := HVP.out; omega)]; rfl, HK2.out⟩
    · go_wp2_with fail
      refine (HG.out _ (HT.out.kp HK.out) (Kp.refl _)).mono ?_
      rintro e w2 ⟨rfl, hk2⟩
      have HK2 := Lib.hid (HK.out.then hk2); clear hk2
      go_wp2_with fail
      go_ret
      refine ⟨?_, HK2.out⟩
      rw [itoa_neg' (by have := HVP.out; omega), show (-pv 10000 l).natAbs = (pv 10000 l).toNat from by have := HVP.out; omega]
      exact congrArg (fun b => Ending.returned (Value.string b)) (by apply ByteArray.ext; simp)
end Go.Proofs.YtjcfejncjdhplaaGreatDoor
namespace Go.Proofs.YtjcfejncjdhplaaGreatDoor
open Go.RowKit Go Klp
def Bg (n : Int) : Prop := (Lib.decDigits n.natAbs).length ≤ 900
theorem split_itoaB {n : Int} (h : Bg n) (w : World) : Calls Tryz.prog 95 #[.string ⟨(Lib.itoa n).toArray⟩] w fun e w' => e = .returned (.tuple #[.bool (decide (n < 0)), .string ⟨(Lib.decDigits n.natAbs).toArray⟩]) ∧ Kp w w' := by
  have hl : (Lib.decDigits n.natAbs).length ≤ 900 := h
  by_cases h0 : n < 0
  · rw [itoa_neg' h0, decide_eq_true h0]; exact split_minus _ _ w rfl (by simp only [List.length_cons]; omega)
  · rw [itoa_pos' h0, decide_eq_false h0]; exact (split_plus _ w (by omega) (dec_pos _) (dec_not45 _)).mono fun e w' ⟨h1, h2⟩ => ⟨h1, Kp.of_eq' h2⟩
theorem valTo_lt17 (s : ByteArray) (o n k : Nat) (hd : digTo s o n) (hn : n ≤ s.size) (ho : o ≤ k) (hk : k ≤ n) (h17 : n ≤ o + 17) : 0 ≤ valTo s o k ∧ valTo s o k < 100000000000000000 := by
  obtain ⟨j, rfl⟩ := Nat.le.dest ho
  have h := valTo_bd s o n hd hn j hk
  have h2 : (10 : Int) ^ j ≤ 10 ^ 17 := ipow_le (by omega) (by omega)
  have h3 : (10 : Int) ^ 17 = 100000000000000000 := by decide
  omega
theorem over_no17 {v d : Int} (h0 : 0 ≤ v) (h1 : v < 100000000000000000) (hd : 0 ≤ d ∧ d ≤ 9) : ¬ (-v < (-9223372036854775808 + d).tdiv 10) := by
  have e : (-9223372036854775808 + d).tdiv 10 = -((9223372036854775808 - d) / 10) := by
    rw [show -9223372036854775808 + d = -(9223372036854775808 - d) from by omega, Int.neg_tdiv, Int.tdiv_eq_ediv_of_nonneg (by omega)]
  rw [e]
  omega
set_option maxHeartbeats 1000000 in
theorem small01_walkB (l s : List UInt8) (m : Bool) (w : World) (hs : ∀ w, Calls Tryz.prog 95 #[.string ⟨l.toArray⟩] w fun e w' => e = .returned (.tuple #[.bool m, .string ⟨s.toArray⟩]) ∧ Kp w w') (hd : ∀ c ∈ s, isDig c) (h9 : s.length ≤ 17) :
    Calls Tryz.prog 238 #[.string ⟨l.toArray⟩] w fun e w' => e = .returned (.tuple #[.int .i64 (if m then -dval s else dval s), .bool true]) ∧ Kp w w' := by
  have HS := Lib.hid hs; clear hs
  have hdig : digTo ⟨s.toArray⟩ 0 s.length := by
    have := digTo_mk (p := []) (q := s) (r := []) hd
    simpa using this
  have hval : valTo ⟨s.toArray⟩ 0 s.length = dval s := by
    have := valTo_mk [] s []
    simpa using this
  have HD := Lib.hid hdig; clear hdig hd
  have HV := Lib.hid hval; clear hval
  have hsz : (⟨s.toArray⟩ : ByteArray).size = s.length := size_mk s
  have hl19 : ¬ (19 : Int) < (s.length : Int) := by omega
  go_enter Tryz.func238, Tryz.ntmps238
  go_wp2_with fail
  refine (HS.out _).mono ?_
  rintro e w' ⟨rfl, hk⟩
  have HK := Lib.hid hk; clear hk
  go_wp2_with fail
  go_loop [2, 3, 6, 7, 8] (fun r2 r3 n i d => ∃ k : Nat, k ≤ s.length ∧ i = .int .i64 k ∧ n = .int .i64 (-(valTo ⟨s.toArray⟩ 0 k)) ∧ r2 = .int .i64 0 ∧ r3 = .bool false) (fun _ _ _ i _ => 1000 - (intOf i).toNat)
  case atStart => exact ⟨0, Nat.zero_le _, rfl, by rw [valTo_zero]; rfl, rfl, rfl⟩
  case round =>
    obtain ⟨k, hk, rfl, rfl, rfl, rfl⟩ := hrel
    have hb := valTo_lt17 ⟨s.toArray⟩ 0 s.length k HD.out (by omega) (Nat.zero_le _) hk (by omega)
    by_cases hlt : k < s.length
    · have hks : k < (⟨s.toArray⟩ : ByteArray).size := by omega
      have hdk := HD.out k hks (Nat.zero_le _) hlt
      have HP := Lib.hid (valTo_succ ⟨s.toArray⟩ 0 k hks (Nat.zero_le _))
      have hov := over_no17 (v := valTo ⟨s.toArray⟩ 0 k) (d := ((⟨s.toArray⟩ : ByteArray)[k].toNat : Int) - 48) hb.1 hb.2 (by omega)
      go_wp2_with fail
      go_round
      case rel => exact ⟨k + 1, by omega, by go_num, by rw [HP.out]; go_num, rfl, rfl⟩
      case measure => simp [intOf]; omega
    · obtain rfl : k = s.length := by omega
      have hv := HV.out
      cases m
      · have hne : ((-(valTo ⟨s.toArray⟩ 0 s.length)) == -9223372036854775808) = false := by simp; omega
        go_wp2_with fail
        go_ret2
        exact ⟨by rw [← HV.out]; simp, HK.out⟩
      · go_wp2_with fail
        go_ret2
        exact ⟨by rw [← HV.out]; simp, HK.out⟩
theorem small01B {n : Int} (h17 : (Lib.decDigits n.natAbs).length ≤ 17) (h : Bg n) (w : World) : Calls Tryz.prog 238 #[.string ⟨(Lib.itoa n).toArray⟩] w fun e w' => e = .returned (.tuple #[.int .i64 n, .bool true]) ∧ Kp w w' := by
  refine (small01_walkB (Lib.itoa n) (Lib.decDigits n.natAbs) _ w (fun w => split_itoaB h w) (dec_dig _) h17).mono fun e w' ⟨h1, h2⟩ => ⟨?_, h2⟩
  rw [h1, dval_dec]
  by_cases h0 : n < 0
  · rw [decide_eq_true h0, if_pos rfl, show -((n.natAbs : Nat) : Int) = n from by omega]
  · rw [decide_eq_false h0, if_neg (by simp), show ((n.natAbs : Nat) : Int) = n from by omega]
set_option maxHeartbeats 400000 in
theorem brief01B {n : Int} (h : Bg n) (h17 : (Lib.decDigits n.natAbs).length ≤ 17) (w : World) : Calls Tryz.prog 165 #[.string ⟨(Lib.itoa n).toArray⟩] w fun e w' => e = .returned (.tuple #[.int .i64 n, .bool true]) ∧ Kp w w' := by
  have HS := Lib.hid fun w => split_itoaB h w
  have HM := Lib.hid fun w => small01B h17 h w
  have hl := h17
  have hl17 : ¬ (17 : Int) < ((Lib.decDigits n.natAbs).length : Int) := by omega
  clear hl h17 h
  go_enter Tryz.func165, Tryz.ntmps165
  go_wp2_with fail
  refine (HS.out _).mono ?_
  rintro e w' ⟨rfl, hk⟩
  have HK := Lib.hid hk; clear hk
  go_wp2_with fail
  refine (HM.out _).mono ?_
  rintro e w2 ⟨rfl, hk⟩
  have HK2 := Lib.hid (HK.out.then hk); clear hk
  go_wp2_with fail
  go_ret2
  exact ⟨rfl, HK2.out⟩
set_option maxHeartbeats 400000 in
theorem brief01N {n : Int} (h : Bg n) (h17 : ¬ (Lib.decDigits n.natAbs).length ≤ 17) (w : World) : Calls Tryz.prog 165 #[.string ⟨(Lib.itoa n).toArray⟩] w fun e w' => e = .returned (.tuple #[.int .i64 0, .bool false]) ∧ Kp w w' := by
  have HS := Lib.hid fun w => split_itoaB h w
  have hl17 : (17 : Int) < ((Lib.decDigits n.natAbs).length : Int) := by omega
  clear h17 h
  go_enter Tryz.func165, Tryz.ntmps165
  go_wp2_with fail
  refine (HS.out _).mono ?_
  rintro e w' ⟨rfl, hk⟩
  have HK := Lib.hid hk; clear hk
  go_wp2_with fail
  go_ret2
  exact ⟨rfl, HK.out⟩
set_option maxHeartbeats 400000 in
theorem abs01B {n : Int} (h : Bg n) (w : World) : Calls Tryz.prog 100 #[.string ⟨(Lib.itoa n).toArray⟩] w fun e w' => e = .returned (.string ⟨(Lib.itoa (n.natAbs : Int)).toArray⟩) ∧ Kp w w' := by
  have HS := Lib.hid fun w => split_itoaB h w
  go_enter Tryz.func100, Tryz.ntmps100
  go_wp2_with fail
  refine (HS.out _).mono ?_
  rintro e w' ⟨rfl, hk⟩
  have HK := Lib.hid hk; clear hk
  go_wp2_with fail
  go_ret
  refine ⟨?_, HK.out⟩
  rw [itoa_pos' (n := (n.natAbs : Int)) (by omega)]
  rfl
end Go.Proofs.YtjcfejncjdhplaaGreatDoor
namespace Go.Proofs.YtjcfejncjdhplaaGreatDoor
open Go.RowKit Go Klp
theorem bg_lt {n : Int} {k : Nat} (h : (Lib.decDigits n.natAbs).length ≤ k) : (n.natAbs : Int) < 10 ^ k := by
  have h1 := (dval_digs (dec_dig n.natAbs)).2
  rw [dval_dec] at h1
  have h2 : (10 : Int) ^ (Lib.decDigits n.natAbs).length ≤ 10 ^ k := ipow_le (by omega) h
  omega
theorem lt_bg {n : Int} {k : Nat} (hk : 1 ≤ k) (h : (n.natAbs : Int) < 10 ^ k) : (Lib.decDigits n.natAbs).length ≤ k := by
  refine dec_len hk ?_
  have h3 : (10 : Int) ^ k = ((10 ^ k : Nat) : Int) := by rw [Int.natCast_pow]; rfl
  omega
theorem pow_4 (k : Nat) : (10 : Int) ^ (4 * k) = 10000 ^ k := by rw [Int.pow_mul]; rfl
theorem pcs_len {l : List Int} (h : Pc 10000 l) {k : Nat} (hv : pv 10000 l < 10 ^ (4 * k)) : l.length ≤ k := by
  rcases Nat.lt_or_ge k l.length with h' | h'
  · exfalso
    have h1 := h.ge (B := 10000) (by omega) (by omega)
    have h2 : (10000 : Int) ^ k ≤ 10000 ^ (l.length - 1) := ipow_le (by omega) (by omega)
    rw [pow_4] at hv
    omega
  · exact h'
theorem Pcs.ex {w : World} {k : IntKind} {B : Int} {v : Value} {n : Int} (h : Pcs w k B v n) : ∃ l, Sls w k v l ∧ Pc B l ∧ pv B l = n := h
theorem take_itoa {n : Int} {k : Nat} (h : (Lib.decDigits n.natAbs).length ≤ 4 * k) (h9 : 4 * k ≤ 1000) (w : World) : Calls Tryz.prog 167 #[.string ⟨(Lib.decDigits n.natAbs).toArray⟩] w fun e w' => ∃ ao l c, e = .returned (.slice ao l.length c) ∧ Sls w' .i64 (.slice ao l.length c) l ∧ Pc 10000 l ∧ pv 10000 l = n.natAbs ∧ l.length ≤ k ∧ Kp w w' := by
  refine (take_walk _ w (by omega) (dec_dig _)).mono ?_
  rintro e w' ⟨v', rfl, ⟨l, h1, h2, h3⟩, hk⟩
  rw [dval_dec] at h3
  obtain ⟨ao, c, rfl, _⟩ := h1.val
  exact ⟨ao, l, c, rfl, h1, h2, h3, pcs_len h2 (by rw [h3]; exact bg_lt h), hk⟩
theorem brief01A {n : Int} (h : Bg n) (w : World) : Calls Tryz.prog 165 #[.string ⟨(Lib.itoa n).toArray⟩] w fun e w' => ∃ (v : Int) (b : Bool), e = .returned (.tuple #[.int .i64 v, .bool b]) ∧ (b = true → v = n ∧ (Lib.decDigits n.natAbs).length ≤ 17) ∧ (b = false → ¬ (Lib.decDigits n.natAbs).length ≤ 17) ∧ Kp w w' := by
  by_cases h17 : (Lib.decDigits n.natAbs).length ≤ 17
  · exact (brief01B h h17 w).mono fun e w' ⟨h1, h2⟩ => ⟨n, true, h1, fun _ => ⟨rfl, h17⟩, (fun h => by cases h), h2⟩
  · exact (brief01N h h17 w).mono fun e w' ⟨h1, h2⟩ => ⟨0, false, h1, (fun h => by cases h), fun _ => h17, h2⟩
theorem itoa_pv {l : List Int} {x : Int} (h : pv 10000 l = x) : (if (false : Bool) = true then -pv 10000 l else pv 10000 l) = x := by simp [h]
set_option maxRecDepth 100000 in
set_option maxHeartbeats 2000000 in
theorem divmodB {x y : Int} (hx : Bg x) (h0 : 0 ≤ x) (hy : Bg y) (h1 : 0 < y) (w : World) (ht : PTab w) :
    Calls Tryz.prog 101 #[.string ⟨(Lib.itoa x).toArray⟩, .string ⟨(Lib.itoa y).toArray⟩] w fun e w' => e = .returned (.tuple #[.string ⟨(Lib.itoa (x / y)).toArray⟩, .string ⟨(Lib.itoa (x % y)).toArray⟩]) ∧ Kp w w' := by
  have HX := Lib.hid fun w => brief01A hx w
  have HY := Lib.hid fun w => brief01A hy w
  have HT := Lib.hid ht; clear ht
  have m1 := Int.emod_nonneg x (show y ≠ 0 by omega)
  have m2 := Int.emod_lt_of_pos x h1
  have q1 : 0 ≤ x / y := Int.ediv_nonneg h0 (by omega)
  have q2 : x / y ≤ x := Int.ediv_le_self _ h0
  have hyz : (y == 0) = false := by simp; omega
  have hrn : ¬ x % y < 0 := by omega
  have HSX := Lib.hid fun w => split_itoaB hx w
  have HSY := Lib.hid fun w => split_itoaB hy w
  have hx9 : (Lib.decDigits x.natAbs).length ≤ 4 * 225 := hx
  have hy9 : (Lib.decDigits y.natAbs).length ≤ 4 * 225 := hy
  have HTX := Lib.hid fun w => take_itoa hx9 (by omega) w
  have HTY := Lib.hid fun w => take_itoa hy9 (by omega) w
  have hxn : decide (x < 0) = false := decide_eq_false (by omega)
  have hyn : decide (y < 0) = false := decide_eq_false (by omega)
  have HB := Lib.hid (And.intro (bg_lt hx9) (bg_lt hy9))
  clear hx hy hx9 hy9
  go_enter Tryz.func101, Tryz.ntmps101
  go_wp2_with fail
  refine (HX.out _).mono ?_
  rintro e w3 ⟨vx, bx, rfl, hbx, hbx', hk⟩
  have HK3 := Lib.hid hk; clear hk
  go_wp2_with fail
  refine (HY.out _).mono ?_
  rintro e w4 ⟨vy, by', rfl, hby, hby', hk⟩
  have HK4 := Lib.hid (HK3.out.then hk); clear hk
  have HBX := Lib.hid (And.intro (And.intro hbx hbx') (And.intro hby hby'))
  clear hbx hbx' hby hby'
  by_cases hq : bx = true ∧ by' = true
  · obtain ⟨rfl, rfl⟩ := hq
    obtain ⟨rfl, hx17⟩ := HBX.out.1.1 rfl
    obtain ⟨rfl, hy17⟩ := HBX.out.2.1 rfl
    have b1 := bg_lt hx17
    have b2 := bg_lt hy17
    have p17 : (10 : Int) ^ 17 = 100000000000000000 := by decide
    rw [p17] at b1 b2
    have b3 : vx < 100000000000000000 := by omega
    have b4 : vy < 100000000000000000 := by omega
    clear b1 b2 p17 hx17 hy17 HBX
    go_wp2_with fail
    go_region
    go_wp2_with fail
    refine (rOfInt (vx / vy) _ (by omega) (by omega) (HT.out.kp (HK4.out.then (Kp.drew _)))).mono ?_
    rintro e w1 ⟨rfl, hk⟩
    have HK := Lib.hid ((HK4.out.then (Kp.drew _)).then hk); clear hk
    go_wp2_with fail
    refine (rOfInt (vx % vy) _ (by omega) (by omega) (HT.out.kp HK.out)).mono ?_
    rintro e w2 ⟨rfl, hk⟩
    have HK2 := Lib.hid (HK.out.then hk); clear hk
    go_wp2_with fail
    go_ret2
    exact ⟨rfl, HK2.out⟩
  · have hc : (bx = false) ∨ (bx = true ∧ by' = false) := by cases bx <;> cases by' <;> simp at hq ⊢
    clear hq HBX
    rcases hc with rfl | ⟨rfl, rfl⟩
    all_goals
      go_wp2_with fail
      refine (HSX.out _).mono ?_
      rintro e w5 ⟨rfl, hk⟩
      rw [hxn]
      have HK5 := Lib.hid (HK4.out.then hk); clear hk
      go_wp2_with fail
      refine (HSY.out _).mono ?_
      rintro e w6 ⟨rfl, hk⟩
      rw [hyn]
      have HK6 := Lib.hid (HK5.out.then hk); clear hk
      go_wp2_with fail
      refine (HTX.out _).mono ?_
      rintro e w7 ⟨ap, lp, cp, rfl, hsp, hcp, hvp, hlp, hk⟩
      have HP := Lib.hid (And.intro hsp (And.intro hcp hvp))
      have HK7 := Lib.hid (HK6.out.then hk)
      clear hsp hcp hvp hk
      go_wp2_with fail
      refine (HTY.out _).mono ?_
      rintro e w8 ⟨aq, lq, cq, rfl, hsq, hcq, hvq, hlq, hk⟩
      have HQ := Lib.hid (And.intro hsq (And.intro hcq hvq))
      have HP8 := Lib.hid (HP.out.1.kp hk)
      have HK8 := Lib.hid (HK7.out.then hk)
      clear hsq hcq hvq hk
      have e1 : pv 10000 lp = x := by rw [HP.out.2.2]; omega
      have e2 : pv 10000 lq = y := by rw [HQ.out.2.2]; omega
      have HE := Lib.hid (And.intro e1 e2)
      clear e1 e2
      go_wp2_with fail
      refine (parts_walk lp lq _ _ _ (by omega) (by omega) HP8.out HQ.out.1 HP.out.2.1.1 HQ.out.2.1 (by rw [HE.out.2]; omega)).mono ?_
      rintro e w9 ⟨vq, vr, rfl, hq9, hr9, hk⟩
      rw [HE.out.1, HE.out.2] at hq9 hr9
      obtain ⟨l1, s1, c1, v1⟩ := hq9
      obtain ⟨l2, s2, c2, v2⟩ := hr9
      obtain ⟨o1, k1, rfl, _⟩ := s1.val
      obtain ⟨o2, k2, rfl, _⟩ := s2.val
      have hbb := HB.out
      have z1 : l1.length ≤ 1000 := Nat.le_trans (pcs_len (k := 225) c1 (by rw [v1]; have := hbb.1; omega)) (by omega)
      have z2 : l2.length ≤ 1000 := Nat.le_trans (pcs_len (k := 225) c2 (by rw [v2]; have := hbb.2; omega)) (by omega)
      have H1 := Lib.hid (And.intro s1 (And.intro c1 v1))
      have H2 := Lib.hid (And.intro s2 (And.intro c2 v2))
      have HK9 := Lib.hid (HK8.out.then hk)
      clear s1 c1 v1 s2 c2 v2 hk hbb
      go_wp2_with fail
      refine (made_walk l1 _ false _ z1 H1.out.1 H1.out.2.1.1 (HT.out.kp HK9.out)).mono ?_
      rintro e w10 ⟨rfl, hk⟩
      have H3 := Lib.hid (H2.out.1.kp hk)
      have HK10 := Lib.hid (HK9.out.then hk)
      clear hk
      rw [itoa_pv H1.out.2.2]
      go_wp2_with fail
      refine (made_walk l2 _ false _ z2 H3.out H2.out.2.1.1 (HT.out.kp HK10.out)).mono ?_
      rintro e w11 ⟨rfl, hk⟩
      have HK11 := Lib.hid (HK10.out.then hk)
      clear hk
      rw [itoa_pv H2.out.2.2]
      go_wp2_with fail
      go_ret2
      exact ⟨rfl, HK11.out⟩
theorem bg_nn {x y : Int} (h : Bg y) (h0 : 0 ≤ x) (h1 : x ≤ y) : Bg x := by
  refine lt_bg (by omega) ?_
  have := bg_lt (k := 900) h
  omega
set_option maxRecDepth 100000 in
set_option maxHeartbeats 2000000 in
theorem gcdB {n d : Int} (hn : Bg n) (hd : Bg d) (w : World) (ht : PTab w) :
    Calls Tryz.prog 56 #[.string ⟨(Lib.itoa n).toArray⟩, .string ⟨(Lib.itoa d).toArray⟩] w fun e w' => e = .returned (.string ⟨(Lib.itoa (Int.gcd n d : Int)).toArray⟩) ∧ Kp w w' := by
  have HA := Lib.hid fun w => abs01B hn w
  have HB := Lib.hid fun w => abs01B hd w
  have HT := Lib.hid ht; clear ht
  have hna : Bg (n.natAbs : Int) := hn
  have hda : Bg (d.natAbs : Int) := hd
  have HNA := Lib.hid hna
  have HDA := Lib.hid hda
  clear hn hd hna hda
  go_enter Tryz.func56, Tryz.ntmps56
  go_wp2_with fail
  refine (HA.out _).mono ?_
  rintro e w3 ⟨rfl, hk⟩
  have HK3 := Lib.hid hk; clear hk
  go_wp2_with fail
  refine (HB.out _).mono ?_
  rintro e w4 ⟨rfl, hk⟩
  have HK4 := Lib.hid (HK3.out.then hk); clear hk
  go_wp2_with fail
  go_loopw [0, 1, 5, 6] (fun a b _ _ wr => ∃ x y : Int, a = .string ⟨(Lib.itoa x).toArray⟩ ∧ b = .string ⟨(Lib.itoa y).toArray⟩ ∧ (Int.gcd x y : Int) = Int.gcd n d ∧ 0 ≤ x ∧ Bg x ∧ 0 ≤ y ∧ Bg y ∧ Kp w wr) (fun _ b _ _ _ => match b with | .string s => ((Lib.atoi s.data.toList).getD 0).natAbs | _ => 0)
  case atStart => exact ⟨n.natAbs, d.natAbs, rfl, rfl, by unfold Int.gcd; simp, by omega, HNA.out, by omega, HDA.out, HK4.out⟩
  case round =>
    obtain ⟨x, y, rfl, rfl, hg, hx1, hx2, hy1, hy2, hk⟩ := hrel
    have HG := Lib.hid hg; clear hg
    have HK := Lib.hid hk; clear hk
    have HX2 := Lib.hid hx2; clear hx2
    have HY2 := Lib.hid hy2; clear hy2
    by_cases hy : y = 0
    · subst hy
      have hz : (Lib.itoa 0 == [48]) = true := by rw [itoa_is_zero]; rfl
      have hzn : (Lib.itoa 0 != [48]) = false := by rw [bne, hz]; rfl
      have hgx : x = Int.gcd n d := by have := HG.out; rw [Int.gcd_zero_right] at this; omega
      have HX := Lib.hid hgx; clear hgx HG
      go_wp2_with fail
      go_ret
      exact ⟨by rw [← HX.out]; rfl, HK.out⟩
    · have hz : (Lib.itoa y == [48]) = false := by rw [itoa_is_zero, decide_eq_false hy]
      have hzn : (Lib.itoa y != [48]) = true := by rw [bne, hz]; rfl
      have m1 := Int.emod_nonneg x hy
      have m2 := Int.emod_lt_of_pos x (show 0 < y by omega)
      go_wp2_with fail
      refine (divmodB (x := x) (y := y) HX2.out hx1 HY2.out (by omega) _ (HT.out.kp HK.out)).mono ?_
      rintro e w1 ⟨rfl, hk1⟩
      have HK1 := Lib.hid (HK.out.then hk1); clear hk1
      go_wp2_with fail
      go_roundw
      case rel =>
        have e : x % y = x.tmod y := (Int.tmod_eq_emod_of_nonneg hx1).symm
        have g1 := (gcd_step x y).trans HG.out
        rw [← e] at g1
        exact ⟨y, x % y, rfl, rfl, g1, hy1, HY2.out, m1, bg_nn HY2.out m1 (by omega), HK1.out⟩
      case measure =>
        show ((Lib.atoi (Lib.itoa (x % y))).getD 0).natAbs < ((Lib.atoi (Lib.itoa y)).getD 0).natAbs
        rw [atoi_itoa, atoi_itoa]
        simp only [Option.getD_some]
        omega
end Go.Proofs.YtjcfejncjdhplaaGreatDoor
namespace Go.Proofs.YtjcfejncjdhplaaGreatDoor
open Go.RowKit Go Klp
theorem p900_le {a b : Int} (ha : a < 10 ^ (4 * 225)) (hb : b < 10 ^ (4 * 225)) : a + b < 10 ^ (4 * 226) := by
  have h := ipow_pos (B := 10) (by omega) (4 * 225)
  have e : (10 : Int) ^ (4 * 226) = 10 ^ (4 * 225) * 10000 := by rw [show 4 * 226 = 4 * 225 + 4 from rfl, Int.pow_add]; rfl
  rw [e]
  generalize (10 : Int) ^ (4 * 225) = P at *
  omega
set_option maxRecDepth 100000 in
set_option maxHeartbeats 2000000 in
theorem addB_ff {x y : Int} (hx : Bg x) (hy : Bg y) (hsx : ¬ x < 0) (hsy : ¬ y < 0) (h17 : ¬ ((Lib.decDigits x.natAbs).length ≤ 17 ∧ (Lib.decDigits y.natAbs).length ≤ 17)) (w : World) (ht : PTab w) :
    Calls Tryz.prog 163 #[.string ⟨(Lib.itoa x).toArray⟩, .string ⟨(Lib.itoa y).toArray⟩] w fun e w' => e = .returned (.string ⟨(Lib.itoa (x + y)).toArray⟩) ∧ Kp w w' := by
  have HX := Lib.hid fun w => brief01A hx w
  have HY := Lib.hid fun w => brief01A hy w
  have HT := Lib.hid ht; clear ht
  have hs1 := fun w => split_itoaB hx w
  have hs2 := fun w => split_itoaB hy w
  rw [decide_eq_false hsx] at hs1
  rw [decide_eq_false hsy] at hs2
  have HSX := Lib.hid hs1
  have HSY := Lib.hid hs2
  have hx9 : (Lib.decDigits x.natAbs).length ≤ 4 * 225 := hx
  have hy9 : (Lib.decDigits y.natAbs).length ≤ 4 * 225 := hy
  have HTX := Lib.hid fun w => take_itoa hx9 (by omega) w
  have HTY := Lib.hid fun w => take_itoa hy9 (by omega) w
  have HB := Lib.hid (And.intro (bg_lt hx9) (bg_lt hy9))
  have H17 := Lib.hid h17
  have HSG := Lib.hid (And.intro hsx hsy)
  clear hx hy hx9 hy9 hs1 hs2 h17 hsx hsy
  go_enter Tryz.func163, Tryz.ntmps163
  go_wp2_with fail
  refine (HX.out _).mono ?_
  rintro e w3 ⟨vx, bx, rfl, hbx, hbx', hk⟩
  have HK3 := Lib.hid hk; clear hk
  go_wp2_with fail
  refine (HY.out _).mono ?_
  rintro e w4 ⟨vy, by', rfl, hby, hby', hk⟩
  have HK4 := Lib.hid (HK3.out.then hk); clear hk
  have hq : ¬ (bx = true ∧ by' = true) := fun ⟨h1, h2⟩ => H17.out ⟨(hbx h1).2, (hby h2).2⟩
  have hc : (bx = false) ∨ (bx = true ∧ by' = false) := by cases bx <;> cases by' <;> simp at hq ⊢
  clear hbx hbx' hby hby' hq
  rcases hc with rfl | ⟨rfl, rfl⟩
  all_goals
    go_wp2_with fail
    refine (HSX.out _).mono ?_
    rintro e w5 ⟨rfl, hk⟩
    have HK5 := Lib.hid (HK4.out.then hk); clear hk
    go_wp2_with fail
    refine (HSY.out _).mono ?_
    rintro e w6 ⟨rfl, hk⟩
    have HK6 := Lib.hid (HK5.out.then hk); clear hk
    go_wp2_with fail
    refine (HTX.out _).mono ?_
    rintro e w7 ⟨ap, lp, cp, rfl, hsp, hcp, hvp, hlp, hk⟩
    have HP := Lib.hid (And.intro hsp (And.intro hcp hvp))
    have HK7 := Lib.hid (HK6.out.then hk)
    clear hsp hcp hvp hk
    go_wp2_with fail
    refine (HTY.out _).mono ?_
    rintro e w8 ⟨aq, lq, cq, rfl, hsq, hcq, hvq, hlq, hk⟩
    have HQ := Lib.hid (And.intro hsq (And.intro hcq hvq))
    have HP8 := Lib.hid (HP.out.1.kp hk)
    have HK8 := Lib.hid (HK7.out.then hk)
    clear hsq hcq hvq hk
    have HN := Lib.hid (And.intro (pv_nn (B := 10000) (by omega) HP.out.2.1.1) (pv_nn (B := 10000) (by omega) HQ.out.2.1.1))
    go_wp2_with fail
    refine (joined_walk lp lq _ _ 1 _ (by omega) (by omega) HP8.out HQ.out.1 HP.out.2.1.1 HQ.out.2.1.1 (by omega) (by have := HN.out; omega)).mono ?_
    rintro e w9 ⟨v9, rfl, ⟨l9, s9, c9, u9⟩, hk⟩
    have HK9 := Lib.hid (HK8.out.then hk)
    have hll : l9.length ≤ 1000 := Nat.le_trans (pcs_len (k := 226) c9 (by rw [u9, HP.out.2.2, HQ.out.2.2]; refine Int.lt_of_le_of_lt ?_ (p900_le HB.out.1 HB.out.2); omega)) (by omega)
    have H9 := Lib.hid (And.intro s9 (And.intro c9 u9))
    clear s9 c9 u9 hk
    go_wp2_with fail
    refine (made_walk l9 _ false _ hll H9.out.1 H9.out.2.1.1 (HT.out.kp HK9.out)).mono ?_
    rintro e w10 ⟨rfl, hk⟩
    have HK10 := Lib.hid (HK9.out.then hk)
    clear hk
    go_wp2_with fail
    go_ret
    refine ⟨?_, HK10.out⟩
    have h1 := H9.out.2.2
    have h2 := HP.out.2.2
    have h3 := HQ.out.2.2
    have h4 := HSG.out
    have h5 : pv 10000 l9 = x + y := by omega
    exact congrArg (fun z => Ending.returned (Value.string ⟨(Lib.itoa z).toArray⟩)) h5
set_option maxRecDepth 100000 in
set_option maxHeartbeats 2000000 in
theorem addB_ft {x y : Int} (hx : Bg x) (hy : Bg y) (hsx : ¬ x < 0) (hsy : y < 0) (h17 : ¬ ((Lib.decDigits x.natAbs).length ≤ 17 ∧ (Lib.decDigits y.natAbs).length ≤ 17)) (w : World) (ht : PTab w) :
    Calls Tryz.prog 163 #[.string ⟨(Lib.itoa x).toArray⟩, .string ⟨(Lib.itoa y).toArray⟩] w fun e w' => e = .returned (.string ⟨(Lib.itoa (x + y)).toArray⟩) ∧ Kp w w' := by
  have HX := Lib.hid fun w => brief01A hx w
  have HY := Lib.hid fun w => brief01A hy w
  have HT := Lib.hid ht; clear ht
  have hs1 := fun w => split_itoaB hx w
  have hs2 := fun w => split_itoaB hy w
  rw [decide_eq_false hsx] at hs1
  rw [decide_eq_true hsy] at hs2
  have HSX := Lib.hid hs1
  have HSY := Lib.hid hs2
  have hx9 : (Lib.decDigits x.natAbs).length ≤ 4 * 225 := hx
  have hy9 : (Lib.decDigits y.natAbs).length ≤ 4 * 225 := hy
  have HTX := Lib.hid fun w => take_itoa hx9 (by omega) w
  have HTY := Lib.hid fun w => take_itoa hy9 (by omega) w
  have HB := Lib.hid (And.intro (bg_lt hx9) (bg_lt hy9))
  have H17 := Lib.hid h17
  have HSG := Lib.hid (And.intro hsx hsy)
  clear hx hy hx9 hy9 hs1 hs2 h17 hsx hsy
  go_enter Tryz.func163, Tryz.ntmps163
  go_wp2_with fail
  refine (HX.out _).mono ?_
  rintro e w3 ⟨vx, bx, rfl, hbx, hbx', hk⟩
  have HK3 := Lib.hid hk; clear hk
  go_wp2_with fail
  refine (HY.out _).mono ?_
  rintro e w4 ⟨vy, by', rfl, hby, hby', hk⟩
  have HK4 := Lib.hid (HK3.out.then hk); clear hk
  have hq : ¬ (bx = true ∧ by' = true) := fun ⟨h1, h2⟩ => H17.out ⟨(hbx h1).2, (hby h2).2⟩
  have hc : (bx = false) ∨ (bx = true ∧ by' = false) := by cases bx <;> cases by' <;> simp at hq ⊢
  clear hbx hbx' hby hby' hq
  rcases hc with rfl | ⟨rfl, rfl⟩
  all_goals
    go_wp2_with fail
    refine (HSX.out _).mono ?_
    rintro e w5 ⟨rfl, hk⟩
    have HK5 := Lib.hid (HK4.out.then hk); clear hk
    go_wp2_with fail
    refine (HSY.out _).mono ?_
    rintro e w6 ⟨rfl, hk⟩
    have HK6 := Lib.hid (HK5.out.then hk); clear hk
    go_wp2_with fail
    refine (HTX.out _).mono ?_
    rintro e w7 ⟨ap, lp, cp, rfl, hsp, hcp, hvp, hlp, hk⟩
    have HP := Lib.hid (And.intro hsp (And.intro hcp hvp))
    have HK7 := Lib.hid (HK6.out.then hk)
    clear hsp hcp hvp hk
    go_wp2_with fail
    refine (HTY.out _).mono ?_
    rintro e w8 ⟨aq, lq, cq, rfl, hsq, hcq, hvq, hlq, hk⟩
    have HQ := Lib.hid (And.intro hsq (And.intro hcq hvq))
    have HP8 := Lib.hid (HP.out.1.kp hk)
    have HK8 := Lib.hid (HK7.out.then hk)
    clear hsq hcq hvq hk
    have HN := Lib.hid (And.intro (pv_nn (B := 10000) (by omega) HP.out.2.1.1) (pv_nn (B := 10000) (by omega) HQ.out.2.1.1))
    go_wp2_with fail
    refine (less_walk lp lq _ _ _ (by omega) (by omega) HP8.out HQ.out.1 HP.out.2.1 HQ.out.2.1).mono ?_
    rintro e w9 ⟨rfl, hk⟩
    have HP9 := Lib.hid (HP8.out.kp hk)
    have HQ9 := Lib.hid (HQ.out.1.kp hk)
    have HKa := Lib.hid (HK8.out.then hk)
    clear hk
    by_cases hlt : pv 10000 lp < pv 10000 lq
    · rw [decide_eq_true hlt]
      have HLT := Lib.hid hlt
      clear hlt
      go_wp2_with fail
      refine (joined_walk lq lp _ _ (-1) _ (by omega) (by omega) HQ9.out HP9.out HQ.out.2.1.1 HP.out.2.1.1 (by omega) (by have := HLT.out; omega)).mono ?_
      rintro e w10 ⟨v9, rfl, ⟨l9, s9, c9, u9⟩, hk⟩
      have HK9 := Lib.hid (HKa.out.then hk)
      have hll : l9.length ≤ 1000 := Nat.le_trans (pcs_len (k := 226) c9 (by rw [u9, HP.out.2.2, HQ.out.2.2]; refine Int.lt_of_le_of_lt ?_ (p900_le HB.out.1 HB.out.2); omega)) (by omega)
      have H9 := Lib.hid (And.intro s9 (And.intro c9 u9))
      clear s9 c9 u9 hk
      go_wp2_with fail
      refine (made_walk l9 _ true _ hll H9.out.1 H9.out.2.1.1 (HT.out.kp HK9.out)).mono ?_
      rintro e w10 ⟨rfl, hk⟩
      have HK10 := Lib.hid (HK9.out.then hk)
      clear hk
      go_wp2_with fail
      go_ret
      refine ⟨?_, HK10.out⟩
      have h1 := H9.out.2.2
      have h2 := HP.out.2.2
      have h3 := HQ.out.2.2
      have h4 := HSG.out
      have h5 : -pv 10000 l9 = x + y := by omega
      exact congrArg (fun z => Ending.returned (Value.string ⟨(Lib.itoa z).toArray⟩)) h5
    · rw [decide_eq_false hlt]
      have HLT := Lib.hid hlt
      clear hlt
      go_wp2_with fail
      refine (joined_walk lp lq _ _ (-1) _ (by omega) (by omega) HP9.out HQ9.out HP.out.2.1.1 HQ.out.2.1.1 (by omega) (by have := HLT.out; omega)).mono ?_
      rintro e w10 ⟨v9, rfl, ⟨l9, s9, c9, u9⟩, hk⟩
      have HK9 := Lib.hid (HKa.out.then hk)
      have hll : l9.length ≤ 1000 := Nat.le_trans (pcs_len (k := 226) c9 (by rw [u9, HP.out.2.2, HQ.out.2.2]; refine Int.lt_of_le_of_lt ?_ (p900_le HB.out.1 HB.out.2); omega)) (by omega)
      have H9 := Lib.hid (And.intro s9 (And.intro c9 u9))
      clear s9 c9 u9 hk
      go_wp2_with fail
      refine (made_walk l9 _ false _ hll H9.out.1 H9.out.2.1.1 (HT.out.kp HK9.out)).mono ?_
      rintro e w10 ⟨rfl, hk⟩
      have HK10 := Lib.hid (HK9.out.then hk)
      clear hk
      go_wp2_with fail
      go_ret
      refine ⟨?_, HK10.out⟩
      have h1 := H9.out.2.2
      have h2 := HP.out.2.2
      have h3 := HQ.out.2.2
      have h4 := HSG.out
      have h5 : pv 10000 l9 = x + y := by omega
      exact congrArg (fun z => Ending.returned (Value.string ⟨(Lib.itoa z).toArray⟩)) h5
set_option maxRecDepth 100000 in
set_option maxHeartbeats 2000000 in
theorem addB_tf {x y : Int} (hx : Bg x) (hy : Bg y) (hsx : x < 0) (hsy : ¬ y < 0) (h17 : ¬ ((Lib.decDigits x.natAbs).length ≤ 17 ∧ (Lib.decDigits y.natAbs).length ≤ 17)) (w : World) (ht : PTab w) :
    Calls Tryz.prog 163 #[.string ⟨(Lib.itoa x).toArray⟩, .string ⟨(Lib.itoa y).toArray⟩] w fun e w' => e = .returned (.string ⟨(Lib.itoa (x + y)).toArray⟩) ∧ Kp w w' := by
  have HX := Lib.hid fun w => brief01A hx w
  have HY := Lib.hid fun w => brief01A hy w
  have HT := Lib.hid ht; clear ht
  have hs1 := fun w => split_itoaB hx w
  have hs2 := fun w => split_itoaB hy w
  rw [decide_eq_true hsx] at hs1
  rw [decide_eq_false hsy] at hs2
  have HSX := Lib.hid hs1
  have HSY := Lib.hid hs2
  have hx9 : (Lib.decDigits x.natAbs).length ≤ 4 * 225 := hx
  have hy9 : (Lib.decDigits y.natAbs).length ≤ 4 * 225 := hy
  have HTX := Lib.hid fun w => take_itoa hx9 (by omega) w
  have HTY := Lib.hid fun w => take_itoa hy9 (by omega) w
  have HB := Lib.hid (And.intro (bg_lt hx9) (bg_lt hy9))
  have H17 := Lib.hid h17
  have HSG := Lib.hid (And.intro hsx hsy)
  clear hx hy hx9 hy9 hs1 hs2 h17 hsx hsy
  go_enter Tryz.func163, Tryz.ntmps163
  go_wp2_with fail
  refine (HX.out _).mono ?_
  rintro e w3 ⟨vx, bx, rfl, hbx, hbx', hk⟩
  have HK3 := Lib.hid hk; clear hk
  go_wp2_with fail
  refine (HY.out _).mono ?_
  rintro e w4 ⟨vy, by', rfl, hby, hby', hk⟩
  have HK4 := Lib.hid (HK3.out.then hk); clear hk
  have hq : ¬ (bx = true ∧ by' = true) := fun ⟨h1, h2⟩ => H17.out ⟨(hbx h1).2, (hby h2).2⟩
  have hc : (bx = false) ∨ (bx = true ∧ by' = false) := by cases bx <;> cases by' <;> simp at hq ⊢
  clear hbx hbx' hby hby' hq
  rcases hc with rfl | ⟨rfl, rfl⟩
  all_goals
    go_wp2_with fail
    refine (HSX.out _).mono ?_
    rintro e w5 ⟨rfl, hk⟩
    have HK5 := Lib.hid (HK4.out.then hk); clear hk
    go_wp2_with fail
    refine (HSY.out _).mono ?_
    rintro e w6 ⟨rfl, hk⟩
    have HK6 := Lib.hid (HK5.out.then hk); clear hk
    go_wp2_with fail
    refine (HTX.out _).mono ?_
    rintro e w7 ⟨ap, lp, cp, rfl, hsp, hcp, hvp, hlp, hk⟩
    have HP := Lib.hid (And.intro hsp (And.intro hcp hvp))
    have HK7 := Lib.hid (HK6.out.then hk)
    clear hsp hcp hvp hk
    go_wp2_with fail
    refine (HTY.out _).mono ?_
    rintro e w8 ⟨aq, lq, cq, rfl, hsq, hcq, hvq, hlq, hk⟩
    have HQ := Lib.hid (And.intro hsq (And.intro hcq hvq))
    have HP8 := Lib.hid (HP.out.1.kp hk)
    have HK8 := Lib.hid (HK7.out.then hk)
    clear hsq hcq hvq hk
    have HN := Lib.hid (And.intro (pv_nn (B := 10000) (by omega) HP.out.2.1.1) (pv_nn (B := 10000) (by omega) HQ.out.2.1.1))
    go_wp2_with fail
    refine (less_walk lp lq _ _ _ (by omega) (by omega) HP8.out HQ.out.1 HP.out.2.1 HQ.out.2.1).mono ?_
    rintro e w9 ⟨rfl, hk⟩
    have HP9 := Lib.hid (HP8.out.kp hk)
    have HQ9 := Lib.hid (HQ.out.1.kp hk)
    have HKa := Lib.hid (HK8.out.then hk)
    clear hk
    by_cases hlt : pv 10000 lp < pv 10000 lq
    · rw [decide_eq_true hlt]
      have HLT := Lib.hid hlt
      clear hlt
      go_wp2_with fail
      refine (joined_walk lq lp _ _ (-1) _ (by omega) (by omega) HQ9.out HP9.out HQ.out.2.1.1 HP.out.2.1.1 (by omega) (by have := HLT.out; omega)).mono ?_
      rintro e w10 ⟨v9, rfl, ⟨l9, s9, c9, u9⟩, hk⟩
      have HK9 := Lib.hid (HKa.out.then hk)
      have hll : l9.length ≤ 1000 := Nat.le_trans (pcs_len (k := 226) c9 (by rw [u9, HP.out.2.2, HQ.out.2.2]; refine Int.lt_of_le_of_lt ?_ (p900_le HB.out.1 HB.out.2); omega)) (by omega)
      have H9 := Lib.hid (And.intro s9 (And.intro c9 u9))
      clear s9 c9 u9 hk
      go_wp2_with fail
      refine (made_walk l9 _ false _ hll H9.out.1 H9.out.2.1.1 (HT.out.kp HK9.out)).mono ?_
      rintro e w10 ⟨rfl, hk⟩
      have HK10 := Lib.hid (HK9.out.then hk)
      clear hk
      go_wp2_with fail
      go_ret
      refine ⟨?_, HK10.out⟩
      have h1 := H9.out.2.2
      have h2 := HP.out.2.2
      have h3 := HQ.out.2.2
      have h4 := HSG.out
      have h5 : pv 10000 l9 = x + y := by omega
      exact congrArg (fun z => Ending.returned (Value.string ⟨(Lib.itoa z).toArray⟩)) h5
    · rw [decide_eq_false hlt]
      have HLT := Lib.hid hlt
      clear hlt
      go_wp2_with fail
      refine (joined_walk lp lq _ _ (-1) _ (by omega) (by omega) HP9.out HQ9.out HP.out.2.1.1 HQ.out.2.1.1 (by omega) (by have := HLT.out; omega)).mono ?_
      rintro e w10 ⟨v9, rfl, ⟨l9, s9, c9, u9⟩, hk⟩
      have HK9 := Lib.hid (HKa.out.then hk)
      have hll : l9.length ≤ 1000 := Nat.le_trans (pcs_len (k := 226) c9 (by rw [u9, HP.out.2.2, HQ.out.2.2]; refine Int.lt_of_le_of_lt ?_ (p900_le HB.out.1 HB.out.2); omega)) (by omega)
      have H9 := Lib.hid (And.intro s9 (And.intro c9 u9))
      clear s9 c9 u9 hk
      go_wp2_with fail
      refine (made_walk l9 _ true _ hll H9.out.1 H9.out.2.1.1 (HT.out.kp HK9.out)).mono ?_
      rintro e w10 ⟨rfl, hk⟩
      have HK10 := Lib.hid (HK9.out.then hk)
      clear hk
      go_wp2_with fail
      go_ret
      refine ⟨?_, HK10.out⟩
      have h1 := H9.out.2.2
      have h2 := HP.out.2.2
      have h3 := HQ.out.2.2
      have h4 := HSG.out
      have h5 : -pv 10000 l9 = x + y := by omega
      exact congrArg (fun z => Ending.returned (Value.string ⟨(Lib.itoa z).toArray⟩)) h5
set_option maxRecDepth 100000 in
set_option maxHeartbeats 2000000 in
theorem addB_tt {x y : Int} (hx : Bg x) (hy : Bg y) (hsx : x < 0) (hsy : y < 0) (h17 : ¬ ((Lib.decDigits x.natAbs).length ≤ 17 ∧ (Lib.decDigits y.natAbs).length ≤ 17)) (w : World) (ht : PTab w) :
    Calls Tryz.prog 163 #[.string ⟨(Lib.itoa x).toArray⟩, .string ⟨(Lib.itoa y).toArray⟩] w fun e w' => e = .returned (.string ⟨(Lib.itoa (x + y)).toArray⟩) ∧ Kp w w' := by
  have HX := Lib.hid fun w => brief01A hx w
  have HY := Lib.hid fun w => brief01A hy w
  have HT := Lib.hid ht; clear ht
  have hs1 := fun w => split_itoaB hx w
  have hs2 := fun w => split_itoaB hy w
  rw [decide_eq_true hsx] at hs1
  rw [decide_eq_true hsy] at hs2
  have HSX := Lib.hid hs1
  have HSY := Lib.hid hs2
  have hx9 : (Lib.decDigits x.natAbs).length ≤ 4 * 225 := hx
  have hy9 : (Lib.decDigits y.natAbs).length ≤ 4 * 225 := hy
  have HTX := Lib.hid fun w => take_itoa hx9 (by omega) w
  have HTY := Lib.hid fun w => take_itoa hy9 (by omega) w
  have HB := Lib.hid (And.intro (bg_lt hx9) (bg_lt hy9))
  have H17 := Lib.hid h17
  have HSG := Lib.hid (And.intro hsx hsy)
  clear hx hy hx9 hy9 hs1 hs2 h17 hsx hsy
  go_enter Tryz.func163, Tryz.ntmps163
  go_wp2_with fail
  refine (HX.out _).mono ?_
  rintro e w3 ⟨vx, bx, rfl, hbx, hbx', hk⟩
  have HK3 := Lib.hid hk; clear hk
  go_wp2_with fail
  refine (HY.out _).mono ?_
  rintro e w4 ⟨vy, by', rfl, hby, hby', hk⟩
  have HK4 := Lib.hid (HK3.out.then hk); clear hk
  have hq : ¬ (bx = true ∧ by' = true) := fun ⟨h1, h2⟩ => H17.out ⟨(hbx h1).2, (hby h2).2⟩
  have hc : (bx = false) ∨ (bx = true ∧ by' = false) := by cases bx <;> cases by' <;> simp at hq ⊢
  clear hbx hbx' hby hby' hq
  rcases hc with rfl | ⟨rfl, rfl⟩
  all_goals
    go_wp2_with fail
    refine (HSX.out _).mono ?_
    rintro e w5 ⟨rfl, hk⟩
    have HK5 := Lib.hid (HK4.out.then hk); clear hk
    go_wp2_with fail
    refine (HSY.out _).mono ?_
    rintro e w6 ⟨rfl, hk⟩
    have HK6 := Lib.hid (HK5.out.then hk); clear hk
    go_wp2_with fail
    refine (HTX.out _).mono ?_
    rintro e w7 ⟨ap, lp, cp, rfl, hsp, hcp, hvp, hlp, hk⟩
    have HP := Lib.hid (And.intro hsp (And.intro hcp hvp))
    have HK7 := Lib.hid (HK6.out.then hk)
    clear hsp hcp hvp hk
    go_wp2_with fail
    refine (HTY.out _).mono ?_
    rintro e w8 ⟨aq, lq, cq, rfl, hsq, hcq, hvq, hlq, hk⟩
    have HQ := Lib.hid (And.intro hsq (And.intro hcq hvq))
    have HP8 := Lib.hid (HP.out.1.kp hk)
    have HK8 := Lib.hid (HK7.out.then hk)
    clear hsq hcq hvq hk
    have HN := Lib.hid (And.intro (pv_nn (B := 10000) (by omega) HP.out.2.1.1) (pv_nn (B := 10000) (by omega) HQ.out.2.1.1))
    go_wp2_with fail
    refine (joined_walk lp lq _ _ 1 _ (by omega) (by omega) HP8.out HQ.out.1 HP.out.2.1.1 HQ.out.2.1.1 (by omega) (by have := HN.out; omega)).mono ?_
    rintro e w9 ⟨v9, rfl, ⟨l9, s9, c9, u9⟩, hk⟩
    have HK9 := Lib.hid (HK8.out.then hk)
    have hll : l9.length ≤ 1000 := Nat.le_trans (pcs_len (k := 226) c9 (by rw [u9, HP.out.2.2, HQ.out.2.2]; refine Int.lt_of_le_of_lt ?_ (p900_le HB.out.1 HB.out.2); omega)) (by omega)
    have H9 := Lib.hid (And.intro s9 (And.intro c9 u9))
    clear s9 c9 u9 hk
    go_wp2_with fail
    refine (made_walk l9 _ true _ hll H9.out.1 H9.out.2.1.1 (HT.out.kp HK9.out)).mono ?_
    rintro e w10 ⟨rfl, hk⟩
    have HK10 := Lib.hid (HK9.out.then hk)
    clear hk
    go_wp2_with fail
    go_ret
    refine ⟨?_, HK10.out⟩
    have h1 := H9.out.2.2
    have h2 := HP.out.2.2
    have h3 := HQ.out.2.2
    have h4 := HSG.out
    have h5 : -pv 10000 l9 = x + y := by omega
    exact congrArg (fun z => Ending.returned (Value.string ⟨(Lib.itoa z).toArray⟩)) h5
set_option maxHeartbeats 2000000 in
theorem addB_brief {x y : Int} (hx : Bg x) (hy : Bg y) (hx17 : (Lib.decDigits x.natAbs).length ≤ 17) (hy17 : (Lib.decDigits y.natAbs).length ≤ 17) (w : World) (ht : PTab w) :
    Calls Tryz.prog 163 #[.string ⟨(Lib.itoa x).toArray⟩, .string ⟨(Lib.itoa y).toArray⟩] w fun e w' => e = .returned (.string ⟨(Lib.itoa (x + y)).toArray⟩) ∧ Kp w w' := by
  have HX := Lib.hid fun w => brief01B hx hx17 w
  have HY := Lib.hid fun w => brief01B hy hy17 w
  have HT := Lib.hid ht; clear ht
  have b1 := bg_lt hx17
  have b2 := bg_lt hy17
  have p17 : (10 : Int) ^ 17 = 100000000000000000 := by decide
  rw [p17] at b1 b2
  have b3 : -100000000000000000 < x ∧ x < 100000000000000000 := by omega
  have b4 : -100000000000000000 < y ∧ y < 100000000000000000 := by omega
  clear b1 b2 p17 hx17 hy17 hx hy
  go_enter Tryz.func163, Tryz.ntmps163
  go_wp2_with fail
  refine (HX.out _).mono ?_
  rintro e w3 ⟨rfl, hk⟩
  have HK3 := Lib.hid hk; clear hk
  go_wp2_with fail
  refine (HY.out _).mono ?_
  rintro e w4 ⟨rfl, hk⟩
  have HK4 := Lib.hid (HK3.out.then hk); clear hk
  go_wp2_with fail
  refine (rOfInt (x + y) _ (by omega) (by omega) (HT.out.kp HK4.out)).mono ?_
  rintro e w1 ⟨rfl, hk⟩
  have HK := Lib.hid (HK4.out.then hk); clear hk
  go_wp2_with fail
  go_ret
  exact ⟨rfl, HK.out⟩
theorem addB {x y : Int} (hx : Bg x) (hy : Bg y) (w : World) (ht : PTab w) :
    Calls Tryz.prog 163 #[.string ⟨(Lib.itoa x).toArray⟩, .string ⟨(Lib.itoa y).toArray⟩] w fun e w' => e = .returned (.string ⟨(Lib.itoa (x + y)).toArray⟩) ∧ Kp w w' := by
  by_cases h17 : (Lib.decDigits x.natAbs).length ≤ 17 ∧ (Lib.decDigits y.natAbs).length ≤ 17
  · exact addB_brief hx hy h17.1 h17.2 w ht
  · by_cases h1 : x < 0 <;> by_cases h2 : y < 0
    · exact addB_tt hx hy h1 h2 h17 w ht
    · exact addB_tf hx hy h1 h2 h17 w ht
    · exact addB_ft hx hy h1 h2 h17 w ht
    · exact addB_ff hx hy h1 h2 h17 w ht
end Go.Proofs.YtjcfejncjdhplaaGreatDoor
