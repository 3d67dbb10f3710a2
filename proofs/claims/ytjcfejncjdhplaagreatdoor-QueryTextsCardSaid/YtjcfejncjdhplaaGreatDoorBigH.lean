/-
  strconv.FormatUint at base 10; strings.Builder: copyCheck, WriteByte, WriteString.
-/
import Derived.Test.YtjcfejncjdhplaaGreatDoorBigC
import Derived.Deep.AppendLies
import Derived.Deep.RegionLaw
import Derived.Test.YtjcfejncjdhplaaGreatDoorBigP
import Derived.Lib.AppendIntMem
import Derived.Lib.Builder
set_option linter.unusedSectionVars false
set_option linter.unusedVariables false
set_option linter.unusedSimpArgs false
namespace Go.Proofs.YtjcfejncjdhplaaGreatDoor
open Go.RowKit Go Klp
theorem parse10_digs {l : List UInt8} (h : ∀ c ∈ l, isDig c) (hl : l ≠ []) (h18 : l.length ≤ 18) : Lib.parseUint10 0 l = .ok (dval l).toNat := by
  have h1 := parse_digs h hl h18
  rw [Lib.parseUintB_64] at h1
  unfold Lib.parseMag at h1
  rw [if_neg hl] at h1
  exact h1
set_option maxHeartbeats 400000 in
theorem parseU_walk (t : ByteArray) (h : ∀ c ∈ t.data.toList, isDig c) (hl : t.data.toList ≠ []) (h18 : t.data.toList.length ≤ 18) (w : World) :
    Calls Tryz.prog 177 #[.string t, .int .i64 10, .int .i64 64] w fun e w' => e = .returned (.tuple #[.int .u64 (dval t.data.toList), .nilIface]) ∧ Kp w w' := by
  have hp := parse10_digs h hl h18
  have hv := (dval_digs h).1
  have hsz : t.size = t.data.toList.length := by rw [Array.length_toList]; rfl
  have HP := Lib.hid hp
  have HV := Lib.hid hv
  have h0 : t.size ≠ 0 := by rw [hsz]; intro e; exact hl (List.eq_nil_of_length_eq_zero e)
  have h1 : t.size ≤ 9223372036854775806 := by omega
  have H0 := Lib.hid h0
  have H1 := Lib.hid h1
  clear hp hv h hl h18 hsz h0 h1
  go_enter Tryz.func177, Tryz.ntmps177
  go_wp2_with fail
  refine (Tryz.internal_strconv_ParseUint_10_b64 t H0.out H1.out _).mono ?_
  rintro e w' ⟨rfl, hw⟩
  rw [HP.out]
  have HK : Hid (Kp w w') := Lib.hid (by rw [hw]; exact Lib.bytesWorld_below w 5 t)
  clear hw
  simp only [Lib.uintTuple]
  have e1 : (((dval t.data.toList).toNat : Nat) : Int) = dval t.data.toList := Int.toNat_of_nonneg HV.out
  rw [e1]
  go_wp2_with fail
  go_ret2
  exact ⟨rfl, HK.out⟩
theorem results_cellF {P : Program} {fn : Func} {t : Tmp} {ty : TypeId} (h : fn.results = #[.cell t ty]) {tmps : Array Value} {w : World} {g e : Nat} {cs : Array Value} {fr : Nat × Nat} {d : TypeDesc} (ht : tmps.getD t undef = .pointer (some ⟨g, 0, none⟩)) (hg : w.heap[g]? = some (.cells cs e fr))
    (hu : P.underlying ty = some d) (hd : (match d with | .struct _ | .array _ _ => true | _ => false) = true) (hi : (P.info? ty).map (·.size) = some cs.size) : (results fn tmps).run P w = .ok (.agg cs) w := by
  have := run_loadVar_row w g e ty cs fr d hg hu hd hi
  have ht' : tmps[t]?.getD undef = .pointer (some ⟨g, 0, none⟩) := by simpa using ht
  simp [results, h, ht', asAddr, Sem.run_bind, this]
theorem take_drop_val (s : List UInt8) {a b : Nat} (hab : a ≤ b) (hb : b ≤ s.length) : dval (s.take b) = dval (s.take a) * 10 ^ (b - a) + dval ((s.take b).drop a) := by
  have e : s.take b = s.take a ++ (s.take b).drop a := by
    conv => lhs; rw [← List.take_append_drop a (s.take b), List.take_take, Nat.min_eq_left hab]
  conv => lhs; rw [e]
  rw [dval_append, List.length_drop, List.length_take, Nat.min_eq_left hb]
theorem drop_nine {s : List UInt8} (hd : ∀ c ∈ s, isDig c) {a b : Nat} (hab : a ≤ b) (h9 : b ≤ a + 9) (hb : b ≤ s.length) : 0 ≤ dval ((s.take b).drop a) ∧ dval ((s.take b).drop a) < 1000000000 := by
  have h := dval_digs (l := (s.take b).drop a) fun c hc => hd c (List.mem_of_mem_take (List.mem_of_mem_drop hc))
  rw [List.length_drop, List.length_take, Nat.min_eq_left hb] at h
  have h2 : (10 : Int) ^ (b - a) ≤ 10 ^ 9 := ipow_le (by omega) (by omega)
  have h3 : (10 : Int) ^ 9 = 1000000000 := by decide
  omega
theorem set2_cells {w : World} {b T : Nat} {x0 x1 : Value} (h : w.heap[b]? = some (.cells #[x0, x1] T (0, 0))) (y0 y1 : Value) : ((w.setCell ⟨b, 0, none⟩ y0).setCell ⟨b, 1, none⟩ y1).heap[b]? = some (.cells #[y0, y1] T (0, 0)) := by
  simp [World.setCell, Array.getElem?_modify, h]
def noU64 : Value → Bool
  | .int .u64 _ => false
  | _ => true
theorem sls_far2 {w : World} {v : Value} {l : List Int} (h : Sls w .u64 v l) {B T : Nat} {cs : Array Value} {fr : Nat × Nat} (hb : w.heap[B]? = some (.cells cs T fr)) (hs : cs.toList.all noU64 = true) (j : Nat) (u : Value) : Sls (w.setCell ⟨B, j, none⟩ u) .u64 v l := by
  obtain ⟨ao, cap, rfl, hc, hn, hx⟩ := h
  refine ⟨ao, cap, rfl, hc, hn, fun hl => ?_⟩
  obtain ⟨b, o, rfl, hcell⟩ := hx hl
  refine ⟨b, o, rfl, fun i hi => ?_⟩
  rw [← hcell i hi]
  refine World.cell?_of_block (a := ⟨b, o + i, Option.none⟩) (Below.heap_setCell _ _ _ _ ?_)
  show b ≠ B
  rintro rfl
  have h1 := hcell i hi
  rw [Lib.cell_of_heap hb] at h1
  have h2 := List.all_eq_true.1 hs (.int .u64 l[i]) (by
    rw [← Array.getElem?_toList] at h1
    exact List.mem_of_getElem? h1)
  cases h2
def OpnR (W : World) (s : List UInt8) (k : Nat) (out : Value) (wr : World) : Prop :=
  ∃ lo, wr.ownsRow W.heap.size 271 1 out k (lo.map (Value.int .u64)) ∧ lo.length = k ∧ Dg 1000000000 lo ∧ dval s = pv 1000000000 lo + 1000000000 ^ k * dval (s.take (s.length - 9 * k)) ∧ Kp W wr
theorem OpnR.next {W wr w1 : World} {s : List UInt8} {lo : List Int} {k en st g c : Nat} {out : Value} {ob : Obj} {x : Int} (hown : wr.ownsRow W.heap.size 271 1 out k (lo.map (Value.int .u64))) (hlo : lo.length = k) (hdo : Dg 1000000000 lo) (hv : dval s = pv 1000000000 lo + 1000000000 ^ k * dval (s.take (s.length - 9 * k))) (hb : Kp W wr)
    (hen : en = s.length - 9 * k) (hst : st = en - 9) (h0 : 0 < en) (hx : x = dval ((s.take en).drop st)) (hx0 : 0 ≤ x) (hx1 : x < 1000000000) (hown1 : w1.ownsRow W.heap.size 271 1 (.slice (some ⟨g, 0, none⟩) (k + 1) c) (k + 1) (lo.map (Value.int .u64) ++ [Value.int .u64 x])) (hg : (wr.alloc ob).grownBy w1 out.ownBlock) :
    OpnR W s (k + 1) (.slice (some ⟨g, 0, none⟩) (k + 1) c) w1 := by
  refine ⟨lo ++ [x], by rw [List.map_append]; exact hown1, by simp [hlo], hdo.snoc hx0 hx1, ?_, (Below.alloc hb hb.size _).grown hg (by have := hb.size; simp; omega) (fun k e => (hown.lt k e).1)⟩
  have h1 := take_drop_val s (a := st) (b := en) (by omega) (by omega)
  have e2 : s.length - 9 * (k + 1) = st := by omega
  rw [e2, pv_snoc, hlo, hv, ← hen, h1, ← hx, Int.pow_succ]
  by_cases hs : st = 0
  · subst hs
    simp [dval]
  · rw [show en - st = 9 from by omega]
    grind
def lenStr : Value → Nat
  | .string b => b.size
  | _ => 0
set_option maxRecDepth 100000 in
set_option maxHeartbeats 2000000 in
theorem open_walk {n : Int} (hn : Bg n) (w : World) : Calls Tryz.prog 111 #[.string ⟨(Lib.itoa n).toArray⟩] w fun e w' => ∃ v, e = .returned (.agg #[.bool (decide (n < 0)), v]) ∧ Pcs w' .u64 1000000000 v n.natAbs ∧ Kp w w' := by
  obtain ⟨i0, hi, hz0, hz1, hz2⟩ := info_parts infoU
  have hl : (Lib.decDigits n.natAbs).length ≤ 900 := hn
  have hd := dec_dig n.natAbs
  have hdv := dval_dec n.natAbs
  have e1 := trim_itoa n
  have e2 := pre_itoa n
  have HE := Lib.hid (And.intro e1 e2)
  clear e1 e2 hn
  generalize Lib.decDigits n.natAbs = s at *
  have HD := Lib.hid hd
  have HDV := Lib.hid hdv
  clear hd hdv
  have hsz : (⟨s.toArray⟩ : ByteArray).size = s.length := size_mk s
  go_enter Tryz.func111, Tryz.ntmps111
  go_wp2_with fail
  refine (cutPre (Lib.itoa n) _).mono ?_
  rintro e w' ⟨rfl, hw⟩
  rw [HE.out.1, HE.out.2]
  subst hw
  go_wp2_with (at_make; refine wpList_make_own _ rfl _ _ 190 rfl (w.heap.size + 1) 271 i0 (.int .u64 0) 1 Tryz.underlying190 hi hz0 hz1 _ _ _ (s.length / 9 + 1) rfl rfl (by omega) ?b2 ?b3 ?b4 ?_)
  case b2 => rw [hz2]; omega
  case b3 => unfold maxLen; omega
  case b4 => simp
  intro w0 hown0 hgrow0
  obtain ⟨W1, hW1⟩ : ∃ W1, w.alloc (.cells #[.bool false, .slice none 0 0] 192) = W1 := ⟨_, rfl⟩
  have hs1 : W1.heap.size = w.heap.size + 1 := by rw [← hW1]; simp
  have hbx : W1.heap[w.heap.size]? = some (.cells #[.bool false, .slice none 0 0] 192 (0, 0)) := by rw [← hW1]; exact heap_alloc_new w _
  have hkw : Kp w W1 := by rw [← hW1]; exact kp_alloc _ _
  rw [hW1] at hgrow0
  have hk0 : Kp W1 w0 := (Below.refl _ W1).grown hgrow0 (Nat.le_refl _) (fun k h => by cases h)
  rw [← hs1] at hown0
  have hO : OpnR W1 s 0 (.slice (some ⟨w.heap.size + 1, 0, none⟩) 0 (s.length / 9 + 1)) w0 := ⟨[], by rw [← hs1]; exact hown0, rfl, Dg.nil _, by simp [pv], hk0⟩
  have HO := Lib.hid hO
  have HBX := Lib.hid (And.intro hbx hkw)
  clear hO hk0 hown0 hgrow0 hbx hkw hW1
  go_wp2_with fail
  go_loopw [3, 5] (fun ss out wr => ∃ k : Nat, ss = .string ⟨(s.take (s.length - 9 * k)).toArray⟩ ∧ 9 * k < s.length + 9 ∧ OpnR W1 s k out wr ∧ ∃ ao c, out = .slice ao k c) (fun ss _ _ => lenStr ss)
  case atStart => exact ⟨0, by rw [Nat.mul_zero, Nat.sub_zero, List.take_length], by omega, HO.out, _, _, rfl⟩
  case round =>
    obtain ⟨k, rfl, hk9, ⟨lo, hown, hlo, hdo, hv, hbel⟩, ao, c, rfl⟩ := hrel
    have HOw := Lib.hid hown; clear hown
    have HV := Lib.hid hv; clear hv
    have HDo := Lib.hid hdo; clear hdo
    have HK := Lib.hid hbel; clear hbel
    by_cases hlt : 9 * k < s.length
    · obtain ⟨en, hen⟩ : ∃ en, en = s.length - 9 * k := ⟨_, rfl⟩
      obtain ⟨st, hst⟩ : ∃ st, st = en - 9 := ⟨_, rfl⟩
      rw [← hen]
      have hsz1 : (⟨(s.take en).toArray⟩ : ByteArray).size = en := by rw [size_mk, List.length_take]; omega
      have hmax : max ((en : Int) - 9) 0 = (st : Int) := by omega
      have hen0 : (0 : Int) < (en : Int) := by omega
      have hste : st ≤ en := by omega
      have hen9 : en ≤ 900 := by omega
      have hex : (⟨(s.take en).toArray⟩ : ByteArray).extract st en = ⟨((s.take en).drop st).toArray⟩ := by
        apply ByteArray.ext
        simp [ByteArray.data_extract]
        rw [List.take_of_length_le]
        simp
        omega
      have hex2 : (⟨(s.take en).toArray⟩ : ByteArray).extract 0 st = ⟨(s.take st).toArray⟩ := by
        apply ByteArray.ext
        simp [ByteArray.data_extract, List.take_take]
        omega
      have hl9 : ((s.take en).drop st).length ≤ 18 := by rw [List.length_drop, List.length_take]; omega
      have hl0 : (s.take en).drop st ≠ [] := by
        intro e
        have := congrArg List.length e
        rw [List.length_drop, List.length_take] at this
        simp at this
        omega
      have hdg : ∀ c ∈ (s.take en).drop st, isDig c := fun c hc => HD.out c (List.mem_of_mem_take (List.mem_of_mem_drop hc))
      have hx := drop_nine HD.out (a := st) (b := en) hste (by omega) (by omega)
      have HEN := Lib.hid (And.intro hen (And.intro hst (And.intro hl9 (And.intro hl0 hdg))))
      clear hl9 hl0 hdg hst hen
      go_wp2_with fail
      refine (parseU_walk ⟨((s.take en).drop st).toArray⟩ HEN.out.2.2.2.2 HEN.out.2.2.2.1 HEN.out.2.2.1 _).mono ?_
      rintro e w4 ⟨rfl, hk4⟩
      have HK4 := Lib.hid (HK.out.then hk4)
      have HO4 := Lib.hid (own_kp HOw.out hk4)
      clear hk4
      go_wp2_with fail
      have hk8 : k ≤ 200 := by omega
      have HK5 := Lib.hid HK4.out.size
      go_region_law (refine step_append_lies _ rfl (.tmp 33) (.tmp 35) 190 rfl W1.heap.size 271 i0 (.int .u64 0) 1 8 Tryz.underlying190 hi hz0 hz1 hz2 rfl (by decide) (.slice ao k c) k (lo.map (Value.int .u64)) rfl ?own ⟨w4.heap.size, 0, none⟩ 1 1 [.int .u64 (dval ((s.take en).drop st))] rfl rfl ?cells ?one ?pos ?h63 ?hb ?hbase (w4.heap.size + 1) ?hH ?rest; (case own => first | exact own_kp HO4.out ((kp_alloc _ _).then (Kp.drew _)) | exact own_kp HO4.out ((Kp.drew _).then (kp_alloc _ _)) | exact own_kp HO4.out (kp_alloc _ _)); (case cells => (intro t u h; match t, h with | 0, h => simp at h; subst h; simp [Addr.add])); (case one => (intro u hu; simp at hu; subst hu; rfl)); (case pos => omega); (case h63 => unfold maxLen; omega); (case hb => omega); (case hbase => have := HK5.out; simp; omega); (case hH => simp); (intro g cap w5 hown5 hgrow5 _ _))
      go_wp2_with fail
      go_roundw
      case rel =>
        obtain ⟨q1, q2, q3, q4, q5⟩ := hgrow5
        have hON : OpnR W1 s (k + 1) (.slice (some ⟨g, 0, none⟩) (k + 1) cap) w5 :=
          OpnR.next HO4.out hlo HDo.out HV.out HK4.out HEN.out.1 HEN.out.2.1 (by omega) rfl hx.1 hx.2 hown5 (ob := .cells #[.int .u64 (dval ((s.take en).drop st))] 271) ⟨q1, q2, q3, q4, q5⟩
        have he : s.take st = s.take (s.length - 9 * (k + 1)) := by
          congr 1
          have h1 := HEN.out.1
          have h2 := HEN.out.2.1
          omega
        (repeat apply Exists.intro)
        exact ⟨⟨k + 1, by rw [← he], by omega, hON, _, _, rfl⟩, rfl⟩
      case measure =>
        show (⟨(s.take st).toArray⟩ : ByteArray).size < (⟨(s.take en).toArray⟩ : ByteArray).size
        rw [size_mk, size_mk, List.length_take, List.length_take]
        have h2 := HEN.out.2.1
        have h1 := HEN.out.1
        omega
    · have hv0 : dval s = pv 1000000000 lo := by
        rw [HV.out, show s.length - 9 * k = 0 from by omega]
        simp [dval]
      have e0 : s.length - 9 * k = 0 := by omega
      rw [e0, List.take_zero]
      have hll : lo.length ≤ 100000 := by omega
      have HV0 := Lib.hid hv0
      clear hv0 e0
      have hk5 : Kp W1 wr := HK.out
      have hlt1 : w.heap.size < W1.heap.size := by omega
      have hcx : wr.heap[w.heap.size]? = some (.cells #[.bool false, .slice none 0 0] 192 (0, 0)) := (hk5.block _ hlt1).trans HBX.out.1
      have HCX := Lib.hid hcx
      clear hcx
      go_wp2_with fail
      refine (trim_walk lo _ _ hll HDo.out (Sls.ownV HOw.out)).mono ?_
      rintro e w6 ⟨v6, rfl, ⟨l6, hs6, hc6, hv6⟩, hk6⟩
      obtain ⟨a6, d6, rfl, _⟩ := hs6.val
      have hcx : w6.heap[w.heap.size]? = some (.cells #[.bool false, .slice none 0 0] 192 (0, 0)) := (hk6.block _ (by have := hk5.size; omega)).trans HCX.out
      have g0 : w6.cell? ⟨w.heap.size, 0, none⟩ = some (.bool false) := by rw [Lib.cell_of_heap hcx]; rfl
      have g1 : w6.cell? ⟨w.heap.size, 1, none⟩ = some (.slice none 0 0) := by rw [Lib.cell_of_heap hcx]; rfl
      have g2 : w6.frozen? ⟨w.heap.size, 0, none⟩ = false := Lib.frozen_of_heap hcx 0
      have g3 : w6.frozen? ⟨w.heap.size, 1, none⟩ = false := Lib.frozen_of_heap hcx 1
      have HC6 := Lib.hid hcx
      have HS6 := Lib.hid (And.intro hs6 (And.intro hc6 hv6))
      have HK6 := Lib.hid ((HBX.out.2.then HK.out).then hk6)
      clear hcx hs6 hc6 hv6 hk6 hk5
      go_wp2_with fail
      refine bodyPost_ret (results_cellF (t := 2) (ty := 192) rfl rfl (set2_cells HC6.out _ _) Tryz.underlying192 rfl (by kernel_rfl)) rfl ?_
      refine ⟨_, rfl, ⟨l6, ?_, HS6.out.2.1, by rw [HS6.out.2.2, ← HV0.out, HDV.out]⟩, (HK6.out.setCell (p := ⟨w.heap.size, 0, none⟩) (Nat.le_refl _) _).setCell (p := ⟨w.heap.size, 1, none⟩) (Nat.le_refl _) _⟩
      have h1 := sls_far2 HS6.out.1 HC6.out (by decide) 0 (.bool (decide (n < 0)))
      have h2 : (w6.setCell ⟨w.heap.size, 0, none⟩ (.bool (decide (n < 0)))).heap[w.heap.size]? = some (.cells #[.bool (decide (n < 0)), .slice none 0 0] 192 (0, 0)) := by
        have := HC6.out
        simp [World.setCell, Array.getElem?_modify, this]
      exact sls_far2 h1 h2 (by rfl) 1 _
end Go.Proofs.YtjcfejncjdhplaaGreatDoor
namespace Go.Proofs.YtjcfejncjdhplaaGreatDoor
open Go.RowKit Go Klp Go.Sort
set_option maxHeartbeats 2000000 in
set_option maxRecDepth 100000 in
theorem ifmtU_walk (u : Nat) (hu64 : u < 18446744073709551616) (w : World) (ht : PTab w) :
    Calls Tryz.prog 248 #[.int .u64 u, .int .i64 10] w fun e w' => e = .returned (.string ⟨(Lib.decDigits u).toArray⟩) ∧ Kp w w' := by
  by_cases hs : u < 100
  · have hs' : (u : Int) < 100 := by omega
    go_enter Tryz.func248, Tryz.ntmps248
    go_wp2_with fail
    refine (Tryz.internal_strconv_small u hs _).mono ?_
    rintro e w' ⟨rfl, hw⟩
    subst hw
    go_wp2_with fail
    go_ret
    exact ⟨rfl, Kp.refl _⟩
  · have hs' : ¬ (u : Int) < 100 := by omega
    have hu1 : 1 ≤ u := by omega
    have hnd20 : Lib.nDigits u ≤ 20 := by have := Lib.numDigits_eq u hu1 hu64; split at this <;> omega
    have hal : Tryz.prog.arrayLen 311 = 24 := by kernel_rfl
    have hsl2 : ∀ W, (Instr.sliceAt 311 (.pointer (some ⟨w.heap.size, 0, none⟩)) none (some (.int .i64 (Lib.nDigits u : Int))) none).run Tryz.prog W = .ok (.slice (some ⟨w.heap.size, 0, none⟩) (Lib.nDigits u) 24) W := fun W => by
      rw [run_sliceAt_array_h W 311 ⟨w.heap.size, 0, none⟩ (by kernel_rfl) .i64 (Lib.nDigits u : Int) (by omega) (by rw [hal]; omega)]
      go_simp
      try omega
    have hH0 := Lib.holds_zero0 w 311 (Lib.nDigits u) (by omega)
    have hfmt := Tryz.internal_strconv_formatBase10 w.heap.size 0 24 u (Array.replicate (Lib.nDigits u) 0) (w.alloc (.cells Lib.zeros24 311)) hH0 (by rw [Array.size_replicate]; exact Lib.lt_pow_nDigits u) hu64 (by rw [Array.size_replicate]; omega)
    rw [Array.size_replicate] at hfmt
    have HH0 := Lib.hid hH0
    have HT := Lib.hid ht
    clear hH0 hal ht
    go_enter Tryz.func248, Tryz.ntmps248
    go_wp2_with fail
    refine (Tryz.internal_strconv_numDigits u hu1 hu64 _ (Lib.tabIs_alloc HT.out _)).mono ?_
    rintro e w' ⟨rfl, hw⟩
    subst hw
    go_wp2_with fail
    refine hfmt.mono ?_
    rintro e w' ⟨rfl, k, v', dk, rfl, hF⟩
    have hcv : (convert 30 9 (.slice (some ⟨w.heap.size, 0, none⟩) (Lib.nDigits u) 24)).run Tryz.prog ((putRow (fun (b : UInt8) => Value.int .u8 (b.toNat : Int)) (w.alloc (.cells Lib.zeros24 311)) w.heap.size 0 dk).drewN k) = .ok (.string ⟨(Lib.decDigits u).toArray⟩) ((putRow (fun (b : UInt8) => Value.int .u8 (b.toNat : Int)) (w.alloc (.cells Lib.zeros24 311)) w.heap.size 0 dk).drewN k) := by
      have h := run_convert_bytes_back (P := Tryz.prog) ((putRow (fun (b : UInt8) => Value.int .u8 (b.toNat : Int)) (w.alloc (.cells Lib.zeros24 311)) w.heap.size 0 dk).drewN k) 30 9 5 ⟨w.heap.size, 0, none⟩ 24 (Lib.decDigits u) Tryz.underlying30 Tryz.underlying5 Tryz.underlying9 (fun j hj => by
        rw [Lib.row_is_numeral hF j hj, Lib.add_plain, World.cell?_drewN]
        exact cell?_putRow (fun (b : UInt8) => Value.int .u8 (b.toNat : Int)) _ w.heap.size 0 _ dk HH0.out (by rw [hF.size, Array.size_replicate]) j (by rw [hF.size]; rw [Lib.decDigits_length] at hj; exact hj))
      rw [Lib.decDigits_length] at h
      exact h
    go_wp2_with fail
    go_ret
    obtain ⟨os, eo⟩ := Lib.fin_at w (.cells Lib.zeros24 311) dk k 0
    refine ⟨rfl, ?_⟩
    have hk : Kp w (grow (w.drewN k) os) := (Kp.drewN w k).then (Kp.grow _ os)
    rw [← eo] at hk
    exact hk
theorem fmtU_walk (u : Nat) (hu64 : u < 18446744073709551616) (w : World) (ht : PTab w) :
    Calls Tryz.prog 184 #[.int .u64 u, .int .i64 10] w fun e w' => e = .returned (.string ⟨(Lib.decDigits u).toArray⟩) ∧ Kp w w' := by
  have HT := Lib.hid ht
  clear ht
  go_enter Tryz.func184, Tryz.ntmps184
  go_wp2_with fail
  refine (ifmtU_walk u hu64 _ HT.out).mono ?_
  rintro e w' ⟨rfl, hk⟩
  have HK := Lib.hid hk; clear hk
  go_wp2_with fail
  go_ret
  exact ⟨rfl, HK.out⟩
abbrev IsB (B b : Nat) (bs : List Value) (w : World) : Prop := Lib.IsBuilder 115 5 B b bs w
abbrev BAt (B b : Nat) (p : Value) (bs : List Value) (w : World) : Prop := Lib.BuilderAt 115 5 B b p bs w
theorem infoSB : (Tryz.prog.info? 115).map (·.size) = some 2 := by kernel_rfl
theorem liesSB : liesAt Tryz.prog Tryz.prog.depth 115 (2 / Tryz.prog.cellsOf 115) 0 115 1 = true := by kernel_rfl
theorem infoB : (Tryz.prog.info? 5).map (fun i => (i.zero, i.size, i.bytes)) = some (some (.int .u8 0), 1, 1) := by kernel_rfl
def KeepN (b : Nat) (w w' : World) : Prop := ∀ k o, w.heap[k]? = some o → k ≠ b → (∀ cs fr, o ≠ .cells cs 5 fr) → w'.heap[k]? = some o
theorem KeepN.refl (b : Nat) (w : World) : KeepN b w w := fun k o h _ _ => h
theorem KeepN.trans {b : Nat} {w w' w'' : World} (h : KeepN b w w') (h' : KeepN b w' w'') : KeepN b w w'' := fun k o a c d => h' k o (h k o a c d) c d
theorem KeepN.kp {b : Nat} {w w' : World} (h : Kp w w') : KeepN b w w' := fun k o a _ _ => (h.block k (Array.getElem?_eq_some_iff.1 a).1).trans a
theorem KeepN.set {b : Nat} (w : World) (j : Nat) (u : Value) : KeepN b w (w.setCell ⟨b, j, none⟩ u) := fun k o a c _ => (Below.heap_setCell _ _ _ _ (by simpa using c)).trans a
theorem KeepN.grown {b B : Nat} {w w' : World} {v : Value} {n : Nat} {xs : List Value} (hown : w.ownsRow B 5 1 v n xs) (hg : w.grownBy w' v.ownBlock) : KeepN b w w' := fun k o a _ d => by
  refine (hg.block k (Array.getElem?_eq_some_iff.1 a).1 (fun e => ?_)).trans a
  rcases hown.2 with ⟨h', _⟩ | ⟨g, cap, cur, h', _, hg', _⟩
  · rw [h'] at e; cases e
  · rw [h'] at e
    cases e
    rw [hg'] at a
    cases a
    exact d _ _ rfl
set_option maxRecDepth 100000 in
set_option maxHeartbeats 1000000 in
theorem copyCheck_walk (B b : Nat) (bs : List Value) (w : World) (h : IsB B b bs w) :
    Calls Tryz.prog 102 #[.pointer (some ⟨b, 0, none⟩)] w fun e w' => e = .returned (.tuple #[]) ∧ BAt B b (.pointer (some ⟨b, 0, none⟩)) bs w' ∧ Below B w w' ∧ KeepN b w w' := by
  obtain ⟨j, hj, hjs⟩ := Option.map_eq_some_iff.1 infoSB
  rcases h with h | h
  · have h0 := h.cell0
    have f0 := h.frozen0
    have hsh := h.shape
    have H := Lib.hid h
    clear h
    go_enter Tryz.func102, Tryz.ntmps102
    go_wp2_with fail
    rw [Lib.run_to_unsafe w ⟨b, 0, none⟩ Tryz.underlying113 Tryz.underlying267 hj (by rw [hjs]; decide) hsh (Nat.zero_lt_succ 1)]
    simp only [Result.andThen]
    rw [Oper.upon_value]
    go_wp2_with fail
    rw [run_callFunc_extern Tryz.func170 (by kernel_rfl) (by kernel_rfl) (by kernel_rfl) (e := Extern.AbiNoEscape.same) (by kernel_rfl)]
    rw [Lib.run_noEscape]
    simp only [Result.andThen]
    rw [Oper.upon_value]
    go_wp2_with fail
    rw [Lib.run_from_unsafe w ⟨b, 0, none⟩ Tryz.underlying267 Tryz.underlying113 hj hsh liesSB]
    simp only [Result.andThen]
    rw [Oper.upon_value]
    go_wp2_with fail
    go_end0
    exact ⟨rfl, H.out.used _, (Below.refl B w).setCell (p := ⟨b, 0, none⟩) H.out.1 _, KeepN.set _ _ _⟩
  · have h0 := h.cell0
    have H := Lib.hid h
    clear h
    go_enter Tryz.func102, Tryz.ntmps102
    go_wp2_with fail
    rw [Lib.run_neq_ptr_same w _ Tryz.underlying113 hj]
    go_wp2_with fail
    go_end0
    exact ⟨rfl, H.out, Below.refl _ _, KeepN.refl _ _⟩
set_option maxRecDepth 100000 in
set_option maxHeartbeats 1000000 in
theorem writeStr_walk (B b : Nat) (bs : List Value) (s : ByteArray) (w : World) (h : IsB B b bs w) (hlen : bs.length + s.size ≤ 140737488355328) (hBw : B ≤ w.heap.size) :
    Calls Tryz.prog 58 #[.pointer (some ⟨b, 0, none⟩), .string s] w fun e w' => e = .returned (.tuple #[.int .i64 s.size, .nilIface]) ∧ BAt B b (.pointer (some ⟨b, 0, none⟩)) (bs ++ Lib.strCells s) w' ∧ Below B w w' ∧ KeepN b w w' := by
  obtain ⟨i0, hi, hz0, hz1, hz2⟩ := info_parts infoB
  go_enter Tryz.func58, Tryz.ntmps58
  go_wp2_with fail
  refine (copyCheck_walk B b bs _ h).mono ?_
  rintro e w1 ⟨rfl, h1, hb1, hkn⟩
  obtain ⟨hB, v, hbk, hown, hne⟩ := h1
  have c1 : w1.cell? ⟨b, 1, none⟩ = some v := by rw [Lib.cell_of_heap hbk]; rfl
  go_wp2_with (at_builtin; refine Lib.wpList_append_own_string _ rfl _ _ 30 9 rfl B 5 i0 Tryz.underlying30 Tryz.underlying9 hi hz0 hz1 hz2 _ _ _ rfl hown s rfl ?c3 ?c4 ?c5 ?_)
  case c3 => unfold maxLen; omega
  case c4 => omega
  case c5 => have := hb1.size; omega
  intro v' w2 hown' hgrow _
  have hlt : b < w1.heap.size := (Array.getElem?_eq_some_iff.1 hbk).1
  have hb2 : w2.heap[b]? = some (.cells #[.pointer (some ⟨b, 0, none⟩), v] 115 (0, 0)) := (hgrow.block b hlt (fun e => hne e.symm)).trans hbk
  have d1 : w2.cell? ⟨b, 1, none⟩ = some v := by rw [Lib.cell_of_heap hb2]; rfl
  have f1 : w2.frozen? ⟨b, 1, none⟩ = false := Lib.frozen_of_heap hb2 1
  obtain ⟨ao, n', cap, rfl⟩ : ∃ ao n' cap, v' = .slice ao n' cap := by
    rcases hown'.2 with ⟨hv, _⟩ | ⟨g, cap, cur, hv, _⟩
    · exact ⟨_, _, _, hv⟩
    · exact ⟨_, _, _, hv⟩
  go_wp2_with fail
  go_ret2
  refine ⟨rfl, ?_, ?_, (hkn.trans (KeepN.grown hown hgrow)).trans (KeepN.set _ _ _)⟩
  · exact Lib.BuilderAt.put (T := 115) (e := 5) hB hb2 (bs' := bs ++ Lib.strCells s) (by simpa [Lib.strCells_length] using hown') (by decide)
  · exact (hb1.grown hgrow (by have := hb1.size; omega) (fun k hk => (hown.lt k hk).1)).setCell (p := ⟨b, 1, none⟩) hB _
set_option maxRecDepth 100000 in
set_option maxHeartbeats 1000000 in
theorem writeByte_walk (B b : Nat) (bs : List Value) (c : Int) (w : World) (h : IsB B b bs w) (hlen : bs.length + 1 ≤ 140737488355328) (hBw : B ≤ w.heap.size) :
    Calls Tryz.prog 183 #[.pointer (some ⟨b, 0, none⟩), .int .u8 c] w fun e w' => e = .returned .nilIface ∧ BAt B b (.pointer (some ⟨b, 0, none⟩)) (bs ++ [.int .u8 c]) w' ∧ Below B w w' ∧ KeepN b w w' := by
  obtain ⟨i0, hi, hz0, hz1, hz2⟩ := info_parts infoB
  go_enter Tryz.func183, Tryz.ntmps183
  go_wp2_with fail
  refine (copyCheck_walk B b bs _ h).mono ?_
  rintro e w1 ⟨rfl, h1, hb1, hkn⟩
  obtain ⟨hB, v, hbk, hown, hne⟩ := h1
  have c1 : w1.cell? ⟨b, 1, none⟩ = some v := by rw [Lib.cell_of_heap hbk]; rfl
  have hlt : b < w1.heap.size := (Array.getElem?_eq_some_iff.1 hbk).1
  have hsz := hb1.size
  go_wp2_with (at_builtin; refine wpList_append_own _ rfl _ _ 30 rfl B 5 i0 (.int .u8 0) 1 1 Tryz.underlying30 hi hz0 hz1 hz2 rfl (by decide) _ _ _ rfl (hown.alloc _) ⟨w1.heap.size, 0, none⟩ 1 1 [.int .u8 c] rfl rfl (by intro t u h; match t, h with | 0, h => simp at h; subst h; simp [Addr.add]) (by intro u hu; simp at hu; subst hu; rfl) ?c3 ?c4 ?c5 ?_)
  case c3 => unfold maxLen; omega
  case c4 => omega
  case c5 => simp; omega
  intro v' w2 hown' hgrow _
  have hk1 : KeepN b w1 (w1.alloc (.cells #[.int .u8 c] 5)) := KeepN.kp ((Below.refl _ _).alloc (Nat.le_refl _) _)
  have hown1 : (w1.alloc (.cells #[.int .u8 c] 5)).ownsRow B 5 1 v bs.length bs := hown.alloc _
  have hb2 : w2.heap[b]? = some (.cells #[.pointer (some ⟨b, 0, none⟩), v] 115 (0, 0)) := (hgrow.block b (by simp; omega) (fun e => hne e.symm)).trans ((Below.heap_alloc _ _ _ hlt).trans hbk)
  have d1 : w2.cell? ⟨b, 1, none⟩ = some v := by rw [Lib.cell_of_heap hb2]; rfl
  have f1 : w2.frozen? ⟨b, 1, none⟩ = false := Lib.frozen_of_heap hb2 1
  obtain ⟨ao, n', cap, rfl⟩ : ∃ ao n' cap, v' = .slice ao n' cap := by
    rcases hown'.2 with ⟨hv, _⟩ | ⟨g, cap, cur, hv, _⟩
    · exact ⟨_, _, _, hv⟩
    · exact ⟨_, _, _, hv⟩
  go_wp2_with fail
  go_ret
  refine ⟨rfl, ?_, ?_, ((hkn.trans hk1).trans (KeepN.grown hown1 hgrow)).trans (KeepN.set _ _ _)⟩
  · exact Lib.BuilderAt.put (T := 115) (e := 5) hB hb2 (bs' := bs ++ [.int .u8 c]) (by simpa using hown') (by decide)
  · exact ((hb1.alloc (by omega) _).grown hgrow (by simp; omega) (fun k hk => (hown1.lt k hk).1)).setCell (p := ⟨b, 1, none⟩) hB _
set_option maxRecDepth 100000 in
set_option maxHeartbeats 2000000 in
theorem strg_walk (B b : Nat) (l : List UInt8) (w : World) (h : IsB B b (Lib.byteCells l) w) (h0 : l ≠ []) :
    Calls Tryz.prog 59 #[.pointer (some ⟨b, 0, none⟩)] w fun e w' => e = .returned (.string ⟨l.toArray⟩) ∧ Below B w w' ∧ KeepN b w w' := by
  obtain ⟨p, hB, v, hbk, hown, hne⟩ : ∃ p, BAt B b p (Lib.byteCells l) w := by
    rcases h with h | h
    · exact ⟨_, h⟩
    · exact ⟨_, h⟩
  have hl0 : l.length ≠ 0 := by simpa using h0
  rw [Lib.byteCells_length] at hown
  obtain ⟨g, cap, cur, rfl, hbg, hg, hnc, hcm, hcs, htake⟩ : ∃ g cap cur, v = .slice (some ⟨g, 0, none⟩) l.length cap ∧ B ≤ g ∧ w.heap[g]? = some (.cells cur 5 (0, 0)) ∧ l.length ≤ cap ∧ cap ≤ maxLen ∧ cur.size = cap * 1 ∧ cur.toList.take (l.length * 1) = Lib.byteCells l := by
    rcases hown.2 with ⟨_, hz⟩ | ⟨g, cap, cur, hv, r⟩
    · exact absurd hz hl0
    · exact ⟨g, cap, cur, hv, r⟩
  have c1 : w.drew.cell? ⟨b, 1, none⟩ = some (.slice (some ⟨g, 0, none⟩) l.length cap) := by
    have : w.drew.heap[b]? = some (.cells #[p, .slice (some ⟨g, 0, none⟩) l.length cap] 115 (0, 0)) := hbk
    rw [Lib.cell_of_heap this]; rfl
  have hSD : (Builtin.unsafeSliceData_ #[30] 183 #[.slice (some ⟨g, 0, none⟩) l.length cap]).run Tryz.prog w.drew = .ok (.pointer (some ⟨g, 0, none⟩)) w.drew :=
    Lib.run_unsafeSliceData_row _ _ _ _ _ _ (by omega)
  have hUS : (Builtin.unsafeString_ #[183, 3] 9 #[.pointer (some ⟨g, 0, none⟩), .int .i64 l.length]).run Tryz.prog w.drew = .ok (.string ⟨l.toArray⟩) (w.drew.freeze ⟨g, 0, none⟩ l.length) := by
    refine Lib.run_unsafeString_row w.drew 183 3 9 5 Tryz.underlying183 (by kernel_rfl) g cur.size (by have hg' : w.drew.heap[g]? = some (.cells cur 5 (0, 0)) := hg; simp [World.shape?, hg']) l h0 (by omega) (by unfold maxLen at hcm; omega) ?_
    intro j x hx
    have := hown.cells (g := g) rfl j (.int .u8 x.toNat) (by simp [Lib.byteCells, hx])
    exact this
  have HF : Hid (Below B w (w.drew.freeze ⟨g, 0, none⟩ l.length) ∧ KeepN b w (w.drew.freeze ⟨g, 0, none⟩ l.length)) := Lib.hid ⟨Lib.below_freeze (Below.drew (Below.refl B w)) (p := ⟨g, 0, none⟩) hbg _, fun k o a _ d => by
    have hkg : k ≠ g := by rintro rfl; rw [hg] at a; cases a; exact d _ _ rfl
    unfold World.freeze
    split
    · exact a
    · simp only [Array.getElem?_modify]
      rw [if_neg (fun e => hkg e.symm)]
      exact a⟩
  clear h hbk hown hg hcs htake hcm hnc
  go_enter Tryz.func59, Tryz.ntmps59
  go_wp2_with fail
  go_region
  all_goals (go_wp2_with fail; go_ret; exact ⟨rfl, HF.out⟩)
end Go.Proofs.YtjcfejncjdhplaaGreatDoor
