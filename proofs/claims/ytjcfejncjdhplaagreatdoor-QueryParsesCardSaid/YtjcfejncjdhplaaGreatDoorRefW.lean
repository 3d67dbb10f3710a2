/-
  klippelaw53.parse: the query of a text by the document.
-/
import Derived.Test.YtjcfejncjdhplaaGreatDoorSamqW
import Derived.Laws.AppendOwnNone
set_option linter.unusedSectionVars false
set_option linter.unusedVariables false
set_option linter.unusedSimpArgs false
namespace Go.Proofs.YtjcfejncjdhplaaGreatDoor
open Go.RowKit Go Klp
theorem spl_step (l : List UInt8) {j : Nat} (h : j < l.length) : spl (l.take (j + 1)) = if l[j] = 32 then spl (l.take j) ++ [[]] else (spl (l.take j)).dropLast ++ [(spl (l.take j)).getLastD [] ++ [l[j]]] := by
  rw [take_snoc l j h]
  split
  · rename_i e
    rw [e, spl_blank]
  · rename_i e
    rw [spl_byte _ e]
structure RefI (w : World) (v : Value) (o : List (List UInt8)) (W : World) : Prop where
  r : W.heap[w.heap.size]? = some (.cells #[.int .i64 0, .slice none 0 0, .slice none 0 0] 26 (0, 0))
  own : W.ownsRow (w.heap.size + 1) 9 1 v o.length (o.map sv)
  below : Below w.heap.size w W
  big : w.heap.size + 1 ≤ W.heap.size
theorem RefI.more {w W W5 : World} {v v5 : Value} {o : List (List UInt8)} {x : List UInt8} {ob : Obj} (h : RefI w v o W) (ho : W5.ownsRow (w.heap.size + 1) 9 1 v5 (o.length + 1) (o.map sv ++ [sv x])) (hg : (W.alloc ob).grownBy W5 v.ownBlock) : RefI w v5 (o ++ [x]) W5 := by
  have hb := h.big
  have hs := hg.size
  have hw := h.below.size
  simp at hs
  refine ⟨((hg.block _ (by simp; omega) (own_no h.own (by omega))).trans (@heap_alloc_old _ _ _ (by omega))).trans h.r, ?_, (Below.alloc h.below hw _).grown hg (by simp; omega) (fun k e => by have := (h.own.lt k e).1; omega), by omega⟩
  rw [List.map_append, List.length_append]
  exact ho
theorem RefI.last {w W : World} {g c m n : Nat} {o : List (List UInt8)} (h : RefI w (.slice (some ⟨g, 0, none⟩) n c) o W) (hn : o.length = n) (y : List UInt8) : RefI w (.slice (some ⟨g, 0, none⟩) n c) (o.set m y) (W.setCell ⟨g, m, none⟩ (sv y)) := by
  subst hn
  have hg := (h.own.lt g rfl).1
  refine ⟨(Below.heap_setCell _ _ _ _ (by simp; omega)).trans h.r, ?_, h.below.setCell (p := ⟨g, m, none⟩) (by simp; omega) _, by have := h.big; simp; omega⟩
  rw [List.map_set, List.length_set]
  exact (h.own.stored m _).1
structure RfI (w : World) (k : Int) (vu vn : Value) (u n : List (List UInt8)) (W : World) : Prop where
  q : W.heap[w.heap.size]? = some (.cells #[.int .i64 k, vu, vn] 26 (0, 0))
  ownU : W.ownsRow (w.heap.size + 1) 9 1 vu u.length (u.map sv)
  ownN : W.ownsRow (w.heap.size + 1) 46 1 vn n.length (n.map sv)
  below : Below w.heap.size w W
  big : w.heap.size + 1 ≤ W.heap.size
theorem RfI.unit {w W W5 : World} {k : Int} {x : List UInt8} {vu vn v5 : Value} {u n : List (List UInt8)} {ob : Obj} (h : RfI w k vu vn u n W) (ho : W5.ownsRow (w.heap.size + 1) 9 1 v5 (u.length + 1) (u.map sv ++ [sv x])) (hg : (W.alloc ob).grownBy W5 vu.ownBlock) :
    RfI w k v5 vn (u ++ [x]) n (W5.setCell ⟨w.heap.size, 1, none⟩ v5) := by
  have hb := h.big
  have hB : ∀ p, p < w.heap.size + 1 → W5.heap[p]? = W.heap[p]? := fun p hp => (hg.block p (by simp; omega) (own_no h.ownU hp)).trans (@heap_alloc_old _ _ _ (by omega))
  have hs := hg.size
  have hw := h.below.size
  simp at hs
  refine ⟨set3_cells1 ((hB _ (by omega)).trans h.q) _, ?_, ?_, ?_, ?_⟩
  · rw [List.map_append, List.length_append]; exact own_set ho (by omega) _
  · exact own_set ((h.ownN.alloc ob).kept hg (own_two (h.ownN.alloc ob) (h.ownU.alloc ob) (by decide))) (by omega) _
  · exact ((Below.alloc h.below hw _).grown hg (by simp; omega) (fun k e => by have := (h.ownU.lt k e).1; omega)).setCell (p := ⟨w.heap.size, 1, none⟩) (by simp) _
  · simp; omega
theorem RfI.number {w W W5 : World} {k : Int} {x : List UInt8} {vu vn v5 : Value} {u n : List (List UInt8)} {ob : Obj} (h : RfI w k vu vn u n W) (ho : W5.ownsRow (w.heap.size + 1) 46 1 v5 (n.length + 1) (n.map sv ++ [sv x])) (hg : (W.alloc ob).grownBy W5 vn.ownBlock) :
    RfI w k vu v5 u (n ++ [x]) (W5.setCell ⟨w.heap.size, 2, none⟩ v5) := by
  have hb := h.big
  have hB : ∀ p, p < w.heap.size + 1 → W5.heap[p]? = W.heap[p]? := fun p hp => (hg.block p (by simp; omega) (own_no h.ownN hp)).trans (@heap_alloc_old _ _ _ (by omega))
  have hs := hg.size
  have hw := h.below.size
  simp at hs
  refine ⟨set3_cells2 ((hB _ (by omega)).trans h.q) _, ?_, ?_, ?_, ?_⟩
  · exact own_set ((h.ownU.alloc ob).kept hg (own_two (h.ownU.alloc ob) (h.ownN.alloc ob) (by decide))) (by omega) _
  · rw [List.map_append, List.length_append]; exact own_set ho (by omega) _
  · exact ((Below.alloc h.below hw _).grown hg (by simp; omega) (fun k e => by have := (h.ownN.lt k e).1; omega)).setCell (p := ⟨w.heap.size, 2, none⟩) (by simp) _
  · simp; omega
theorem RfI.q5U {w W W5 : World} {k : Int} {vu vn : Value} {u n : List (List UInt8)} {ob : Obj} (h : RfI w k vu vn u n W) (hg : (W.alloc ob).grownBy W5 vu.ownBlock) : W5.cell? ⟨w.heap.size, 1, none⟩ = some vu ∧ W5.frozen? ⟨w.heap.size, 1, none⟩ = false := by
  have hb := h.big
  have hq : W5.heap[w.heap.size]? = _ := ((hg.block _ (by simp; omega) (own_no h.ownU (by omega))).trans (@heap_alloc_old _ _ _ (by omega))).trans h.q
  exact ⟨by rw [Lib.cell_of_heap hq]; rfl, Lib.frozen_of_heap hq 1⟩
theorem RfI.q5N {w W W5 : World} {k : Int} {vu vn : Value} {u n : List (List UInt8)} {ob : Obj} (h : RfI w k vu vn u n W) (hg : (W.alloc ob).grownBy W5 vn.ownBlock) : W5.cell? ⟨w.heap.size, 2, none⟩ = some vn ∧ W5.frozen? ⟨w.heap.size, 2, none⟩ = false := by
  have hb := h.big
  have hq : W5.heap[w.heap.size]? = _ := ((hg.block _ (by simp; omega) (own_no h.ownN (by omega))).trans (@heap_alloc_old _ _ _ (by omega))).trans h.q
  exact ⟨by rw [Lib.cell_of_heap hq]; rfl, Lib.frozen_of_heap hq 2⟩
theorem RfI.drew {w W : World} {k : Int} {vu vn : Value} {u n : List (List UInt8)} (h : RfI w k vu vn u n W) : RfI w k vu vn u n W.drew :=
  ⟨h.q, own_kp h.ownU (Kp.drew _), own_kp h.ownN (Kp.drew _), Kp.then h.below (Kp.drew _), h.big⟩
theorem fitQ_len {N : UInt8} : ∀ {F W u n : List (List UInt8)}, F.length ≠ W.length → fitQ N F W u n = none
  | [], [], _, _, h => absurd rfl h
  | [], _ :: _, _, _, _ => by simp [fitQ]
  | _ :: _, [], _, _, _ => by simp [fitQ]
  | f :: F, x :: W, u, n, h => by
    have h' : F.length ≠ W.length := by simpa using h
    rw [fitQ]
    split
    · rfl
    · split
      · exact fitQ_len h'
      · split
        · exact fitQ_len h'
        · split
          · exact fitQ_len h'
          · rfl
theorem formI_len (N : UInt8) (k : Int) : (formI N k).length ≤ 100 := by
  by_cases h : 1 ≤ k ∧ k ≤ 11
  · rcases (show k = 1 ∨ k = 2 ∨ k = 3 ∨ k = 4 ∨ k = 5 ∨ k = 6 ∨ k = 7 ∨ k = 8 ∨ k = 9 ∨ k = 10 ∨ k = 11 by omega) with rfl | rfl | rfl | rfl | rfl | rfl | rfl | rfl | rfl | rfl | rfl <;> exact (by decide : (9 : Nat) ≤ 100) |> Nat.le_trans (by simp [formI, formN])
  · rw [formI_no (by omega)]; simp
theorem last_set {o : List (List UInt8)} {m : Nat} {x : List UInt8} (hm : o.length = m + 1) (hx : o[m]? = some x) (c : UInt8) : o.dropLast ++ [o.getLastD [] ++ [c]] = o.set m (x ++ [c]) := by
  obtain ⟨p, z, rfl⟩ : ∃ p z, o = p ++ [z] := ⟨o.dropLast, o.getLast (by intro e; subst e; simp at hm), (List.dropLast_concat_getLast _).symm⟩
  have hp : p.length = m := by simpa using hm
  subst hp
  simp at hx
  subst hx
  simp
set_option maxRecDepth 100000 in
set_option maxHeartbeats 4000000 in
theorem refParse_walk (l : List UInt8) (hl : l.length ≤ 800) (R : Option (Nat × List (List UInt8) × List (List UInt8))) (hR : R = prs (spl l)) (w : World) (ht : PTab w) :
    Calls Tryz.prog 7 #[sv l] w fun e w' => ∃ r E, e = .returned (.tuple #[r, .int .i64 E]) ∧ PrsP R r E w' ∧ Kp w w' := by
  have HR := Lib.hid hR
  have HT := Lib.hid ht
  clear hR ht
  have hsz : (⟨l.toArray⟩ : ByteArray).size = l.length := size_mk l
  go_enter Tryz.func7, Tryz.ntmps7
  go_wp2_with fail
  have hI : RefI w (.slice (some ⟨w.heap.size + 1, 0, none⟩) 1 1) (spl (l.take 0)) ((w.alloc (.cells #[.int .i64 0, .slice none 0 0, .slice none 0 0] 26)).alloc (.cells #[.string ⟨#[]⟩] 9)) := by
    refine ⟨(@heap_alloc_old _ _ _ (by simp)).trans (heap_alloc_new w _), ?_, (kp_alloc _ _).then (kp_alloc _ _), by simp⟩
    have h := World.ownsRow_lit (base := w.heap.size + 1) (e := 9) (size := 1) (w.alloc (.cells #[.int .i64 0, .slice none 0 0, .slice none 0 0] 26)) #[sv []] 1 (by simp) (by unfold maxLen; omega) rfl
    rw [show (w.alloc (.cells #[.int .i64 0, .slice none 0 0, .slice none 0 0] 26)).heap.size = w.heap.size + 1 from by simp] at h
    exact h
  have HI := Lib.hid hI
  clear hI
  go_loopw [4, 5] (fun v t W => ∃ (j : Nat), j ≤ l.length ∧ t = .int .i64 j ∧ RefI w v (spl (l.take j)) W) (fun _ t _ => 801 - (intOf t).toNat)
  case atStart => exact ⟨0, Nat.zero_le _, rfl, HI.out⟩
  case round =>
    obtain ⟨j, hj, rfl, hI⟩ := hrel
    obtain ⟨i0, HA⟩ : ∃ i0, _ := info_parts infoT
    have HA := Lib.hid HA
    have HJ := Lib.hid hI
    clear hI
    obtain ⟨av, cv, rfl⟩ := own_sl HJ.out.own
    have hol := spl_len (l.take j)
    rw [List.length_take] at hol
    by_cases hlt : j < l.length
    · have hst := spl_step l hlt
      obtain ⟨c, hc⟩ : ∃ c, c = l[j] := ⟨_, rfl⟩
      by_cases h32 : l[j] = 32
      · have HS := Lib.hid hst
        clear hst hc
        have hb : (((((⟨l.toArray⟩ : ByteArray)[j]'(by rw [size_mk]; exact hlt)).toNat : Nat) : Int) == 32) = true := by
          show ((l[j].toNat : Int) == 32) = true
          rw [h32]; rfl
        have HH := Lib.hid h32
        clear h32
        go_wp2_with (at_builtin; refine wpList_append_lies _ rfl _ _ 23 rfl (w.heap.size + 1) 9 i0 (.string ByteArray.empty) 1 16 Tryz.underlying23 HA.out.1 HA.out.2.1 HA.out.2.2.1 HA.out.2.2.2 rfl (by decide) (.slice av (spl (l.take j)).length cv) (spl (l.take j)).length ((spl (l.take j)).map sv) rfl (own_kp HJ.out.own (kp_alloc _ _)) ⟨wr.heap.size, 0, none⟩ 1 1 [sv []] rfl rfl (by intro t z h; match t, h with | 0, h => simp at h; subst h; simp [Addr.add]) (by intro z hz; simp at hz; subst hz; rfl) ?c1 ?c2 ?c3 ?c4 (wr.heap.size + 1) ?c5 ?_; (case c1 => omega); (case c2 => unfold maxLen; omega); (case c3 => omega); (case c4 => have := HJ.out.big; simp; omega); (case c5 => simp); intro g cap5 w5 hown5 hgrow5 _ _)
        go_wp2_with fail
        go_roundw
        case rel => exact ⟨j + 1, by omega, by go_num, by rw [HS.out, if_pos HH.out]; exact HJ.out.more hown5 hgrow5⟩
        case measure => simp only [intOf]; omega
      · have hb : (((((⟨l.toArray⟩ : ByteArray)[j]'(by rw [size_mk]; exact hlt)).toNat : Nat) : Int) == 32) = false := by
          rw [beq_eq_false_iff_ne]
          intro h
          have h' : (l[j].toNat : Int) = 32 := h
          exact h32 (UInt8.toNat_inj.1 (by show l[j].toNat = 32; omega))
        rw [if_neg h32] at hst
        have hex : (⟨l.toArray⟩ : ByteArray).extract j (j + 1) = ⟨#[l[j]]⟩ := by
          apply ByteArray.ext
          simp [ByteArray.data_extract]
          rw [List.drop_eq_getElem_cons hlt]; rfl
        have HS := Lib.hid hst
        have HH := Lib.hid h32
        clear hst hc h32
        obtain ⟨m, hm⟩ : ∃ m, (spl (l.take j)).length = m + 1 := ⟨(spl (l.take j)).length - 1, by have := List.length_pos_iff.2 (spl_ne (l.take j)); omega⟩
        have ho := HJ.out.own
        obtain ⟨g, rfl⟩ : ∃ g, av = some ⟨g, 0, none⟩ := by
          rcases ho.2 with ⟨h1, h2⟩ | ⟨g, cap, cur, h1, _⟩
          · exact absurd h2 (by omega)
          · exact ⟨g, by injection h1⟩
        have hj1 : m < (spl (l.take j)).length * 1 := by omega
        have hcl := ho.cellAt m hj1
        have hf := ho.frozenAt m
        rw [List.getElem?_map] at hcl
        obtain ⟨x, hx⟩ : ∃ x, (spl (l.take j))[m]? = some x := ⟨_, List.getElem?_eq_getElem (by omega)⟩
        rw [hx] at hcl
        simp only [Option.map_some] at hcl
        have HX := Lib.hid (And.intro hm hx)
        have hwr : IntKind.i64.wrap (m : Int) = m := by rw [IntKind.wrap_i64]; omega
        have hm800 : m ≤ 800 := by omega
        rw [hm]
        have hxl : x.length ≤ 800 := Nat.le_trans (spl_mem (List.mem_of_getElem? hx)) (by rw [List.length_take]; omega)
        have hsx : (⟨x.toArray⟩ : ByteArray).size = x.length := size_mk x
        have hs1 : (⟨#[l[j]]⟩ : ByteArray).size = 1 := rfl
        have hmlt : (m : Int) < (m : Int) + 1 := by omega
        clear hx ho hj1 hol hm
        have hj63 : (j : Int) + 1 ≤ 801 := by omega
        go_wp2_with fail
        go_region
        go_wp2_with fail
        go_roundw
        case rel =>
          refine ⟨j + 1, by omega, by go_num, ?_⟩
          rw [HS.out, last_set HX.out.1 HX.out.2]
          have h := HJ.out
          rw [HX.out.1] at h
          have h2 := h.last (m := m) HX.out.1 (x ++ [l[j]])
          rw [show sv (x ++ [l[j]]) = .string ((⟨x.toArray⟩ : ByteArray) ++ ⟨#[l[j]]⟩) from by
            show Value.string _ = _
            congr 1] at h2
          exact ⟨h2.r, h2.own, ⟨h2.below.os, h2.below.tape, h2.below.output, h2.below.size, h2.below.block⟩, h2.big⟩
        case measure => simp only [intOf]; omega
    · obtain rfl : j = l.length := by omega
      have hJ := HJ.out
      have hwm : ∀ x ∈ spl l, x.length ≤ 800 := fun x hx => Nat.le_trans (spl_mem hx) hl
      have hln : (spl (l.take l.length)).length = (spl l).length := by rw [List.take_length]
      rw [hln] at hJ ⊢
      rw [List.take_length] at hJ
      rw [hln] at hol
      have hne := List.length_pos_iff.2 (spl_ne l)
      obtain ⟨ws, hws⟩ : ∃ ws, ws = spl l := ⟨_, rfl⟩
      rw [← hws] at hJ hwm hol hne ⊢
      have hwl : ws.length ≤ 801 := by omega
      have HWS := Lib.hid hws
      have HWM := Lib.hid hwm
      obtain ⟨w1, rfl⟩ : ∃ w1, w1 = wr := ⟨_, rfl⟩
      have HST := Lib.hid (Sts.ownV hJ.own)
      have HZ := Lib.hid hJ.r
      have HK := Lib.hid (show Kp w w1 from hJ.below)
      obtain ⟨bW, oW, rfl⟩ := HST.out.addr hne
      obtain ⟨i1, HB⟩ : ∃ i1, _ := info_parts infoR
      have HB := Lib.hid HB
      clear hws hwm hJ hol hln HJ hne
      go_wp2_with fail
      go_loopw [6] (fun t W => ∃ i : Nat, i ≤ 11 ∧ t = .int .i64 ((i : Int) + 1) ∧ Kp w1 W ∧ ∀ j, j < i → fit 78 (spl (kwB (j + 1))) ws [] [] = none) (fun t _ => 13 - (intOf t).toNat)
      case atStart => exact ⟨0, by omega, rfl, Kp.refl _, fun j h => absurd h (by omega)⟩
      case round =>
        obtain ⟨i, hi, rfl, hk, hno⟩ := hrel
        obtain ⟨w2, rfl⟩ : ∃ w2, w2 = wr := ⟨_, rfl⟩
        have HL := Lib.hid hk
        have HNO := Lib.hid hno
        clear hk hno
        by_cases hlt : i < 11
        · have hle : (i : Int) + 1 ≤ 11 := by omega
          go_wp2_with fail
          refine (form_walk ((i : Int) + 1) _).mono ?_
          rintro e w3 ⟨v, rfl, hs, hk3⟩
          have hfl := formI_len 88 ((i : Int) + 1)
          have hfp := form_pos (k := (i : Int) + 1) (by omega)
          have hfr := fit_ref hlt ws
          obtain ⟨F, hF⟩ : ∃ F, F = formI 88 ((i : Int) + 1) := ⟨_, rfl⟩
          rw [← hF] at hs hfl hfp hfr
          obtain ⟨a1, d1, rfl, _⟩ := hs.val
          obtain ⟨bF, oF, rfl⟩ := hs.addr hfp
          obtain ⟨G, hG⟩ : ∃ G, G = fitQ 88 F ws [] [] := ⟨_, rfl⟩
          rw [← hG] at hfr
          have HFR := Lib.hid hfr
          have HFS := Lib.hid hs
          have HK3 := Lib.hid (HL.out.then hk3)
          obtain ⟨fb, hfb⟩ : ∃ fb, ((F.length : Int) == (ws.length : Int)) = fb := ⟨_, rfl⟩
          have hfb1 : fb = true → G = fitQ 88 F ws [] [] ∧ F.length = ws.length := fun e => ⟨hG, by rw [e, beq_iff_eq] at hfb; omega⟩
          have hfb2 : fb = false → G = none := fun e => by rw [hG]; exact fitQ_len (by rw [e, beq_eq_false_iff_ne] at hfb; omega)
          have HFB := Lib.hid (And.intro hfb1 hfb2)
          clear hfb1 hfb2 hs hk3 hF hG hfr
          go_wp2_with fail
          go_loopw [8, 10] (fun b t W => ∃ (m : Nat) (u n : List (List UInt8)) (vu vn : Value) (fb : Bool), m ≤ F.length ∧ t = .int .i64 m ∧ b = .bool fb ∧ RfI w3 ((i : Int) + 1) vu vn u n W ∧ ((fb = true → G = fitQ 88 (F.drop m) (ws.drop m) u n ∧ F.length = ws.length) ∧ (fb = false → G = none)) ∧ u.length ≤ m ∧ n.length ≤ m) (fun _ t _ => 101 - (intOf t).toNat)
          case atStart =>
            refine ⟨0, [], [], .slice none 0 0, .slice none 0 0, fb, Nat.zero_le _, rfl, rfl, ?_, HFB.out, Nat.le_refl _, Nat.le_refl _⟩
            exact ⟨heap_alloc_new _ _, ⟨rfl, .inl ⟨rfl, rfl⟩⟩, ⟨rfl, .inl ⟨rfl, rfl⟩⟩, kp_alloc _ _, by simp⟩
          case round =>
            obtain ⟨m, u, n, vu, vn, fc, hm, rfl, rfl, hI, hfc, hu, hn⟩ := hrel
            have HI2 := Lib.hid hI
            have HFC := Lib.hid hfc
            clear hI hfc hfb HFB
            cases fc with
            | false =>
              by_cases hml : m < F.length
              · go_wp2_with fail
                go_roundw
                case rel => exact ⟨i + 1, by omega, by go_num, HK3.out.then HI2.out.below, fun j hj => by
                  by_cases h : j < i
                  · exact HNO.out j h
                  · obtain rfl : j = i := by omega
                    have h := HFR.out
                    rw [HFC.out.2 rfl] at h
                    exact Option.map_eq_none_iff.1 h.symm⟩
                case measure => simp only [intOf]; omega
              · obtain rfl : m = F.length := by omega
                go_wp2_with fail
                go_roundw
                case rel => exact ⟨i + 1, by omega, by go_num, HK3.out.then HI2.out.below, fun j hj => by
                  by_cases h : j < i
                  · exact HNO.out j h
                  · obtain rfl : j = i := by omega
                    have h := HFR.out
                    rw [HFC.out.2 rfl] at h
                    exact Option.map_eq_none_iff.1 h.symm⟩
                case measure => simp only [intOf]; omega
            | true =>
              have hFW := (HFC.out.1 rfl).2
              have hGm := (HFC.out.1 rfl).1
              have hQ : wr.heap[w3.heap.size]? = _ := HI2.out.q
              obtain ⟨au, cu, rfl⟩ := own_sl HI2.out.ownU
              obtain ⟨an, cn, rfl⟩ := own_sl HI2.out.ownN
              have r0 : wr.cell? ⟨w3.heap.size, 0, none⟩ = some (.int .i64 ((i : Int) + 1)) := by rw [Lib.cell_of_heap hQ]; rfl
              have r1 : wr.cell? ⟨w3.heap.size, 1, none⟩ = some (.slice au u.length cu) := by rw [Lib.cell_of_heap hQ]; rfl
              have r2 : wr.cell? ⟨w3.heap.size, 2, none⟩ = some (.slice an n.length cn) := by rw [Lib.cell_of_heap hQ]; rfl
              have HQ := Lib.hid hQ
              clear hQ
              by_cases hml : m < F.length
              · have hms : m < ws.length := by omega
                have hcw : wr.cell? ⟨bW, oW + m, none⟩ = some (sv ws[m]) := HST.out.cells (HK3.out.then HI2.out.below) hms
                have hct : wr.cell? ⟨bF, oF + m, none⟩ = some (sv F[m]) := HFS.out.cells HI2.out.below hml
                have hst : G = fitQ 88 (F[m] :: F.drop (m + 1)) (ws[m] :: ws.drop (m + 1)) u n := by rw [hGm, List.drop_eq_getElem_cons hml, List.drop_eq_getElem_cons hms]
                obtain ⟨x, hx⟩ : ∃ x, x = ws[m] := ⟨_, rfl⟩
                obtain ⟨y, hy⟩ : ∃ y, y = F[m] := ⟨_, rfl⟩
                rw [← hx] at hcw hst
                rw [← hy] at hct hst
                have HS := Lib.hid hst
                have HFW := Lib.hid hFW
                clear hx hy hst hGm hFW r0
                by_cases hx0 : x = []
                · subst hx0
                  clear r1 r2
                  go_wp2_with fail
                  go_roundw
                  case rel => exact ⟨m + 1, u, n, _, _, false, by omega, by go_num, rfl, HI2.out, ⟨fun h => (by cases h), fun _ => by rw [HS.out, fitQ, if_pos rfl]⟩, by omega, by omega⟩
                  case measure => simp only [intOf]; omega
                · have hxe : x.isEmpty = false := by
                    cases x with
                    | nil => exact absurd rfl hx0
                    | cons => rfl
                  have HX0 := Lib.hid hx0
                  clear hx0
                  by_cases hyU : y = [85]
                  · subst hyU
                    by_cases hxq : x = [63]
                    · subst hxq
                      have r1a : (wr.alloc (.cells #[sv []] 9)).cell? ⟨w3.heap.size, 1, none⟩ = some (.slice au u.length cu) := (Below.cell (kp_alloc wr _) (p := ⟨w3.heap.size, 1, none⟩) (World.block_lt_of_cell? wr _ r1)).trans r1
                      go_wp2_with (at_builtin; refine wpList_append_lies _ rfl _ _ 23 rfl (w3.heap.size + 1) 9 i0 (.string ByteArray.empty) 1 16 Tryz.underlying23 HA.out.1 HA.out.2.1 HA.out.2.2.1 HA.out.2.2.2 rfl (by decide) (.slice au u.length cu) u.length (u.map sv) rfl (own_kp HI2.out.ownU (kp_alloc _ _)) ⟨wr.heap.size, 0, none⟩ 1 1 [sv []] rfl rfl (by intro t z h; match t, h with | 0, h => simp at h; subst h; simp [Addr.add]) (by intro z hz; simp at hz; subst hz; rfl) ?c1 ?c2 ?c3 ?c4 (wr.heap.size + 1) ?c5 ?_; (case c1 => omega); (case c2 => unfold maxLen; omega); (case c3 => omega); (case c4 => have := HI2.out.big; simp; omega); (case c5 => simp); (intro g cap5 w5 hown5 hgrow5 _ _; obtain ⟨p1, p2, p3, p4, p5⟩ := hgrow5; have HG := Lib.hid (show (wr.alloc (.cells #[sv []] 9)).grownBy w5 (Value.slice au u.length cu).ownBlock from ⟨p1, p2, p3, p4, p5⟩); have HO5 := Lib.hid hown5; obtain ⟨c5, f5⟩ := RfI.q5U HI2.out HG.out; clear p1 p2 p3 p4 p5 hown5))
                      all_goals (try go_wp2_with fail)
                      all_goals (try go_roundw)
                      case rel => exact ⟨m + 1, u ++ [[]], n, _, _, true, by omega, by go_num, rfl, RfI.unit HI2.out HO5.out HG.out, ⟨fun _ => ⟨by rw [HS.out, fitQ, if_neg HX0.out, if_pos rfl]; rfl, HFW.out⟩, fun h => by cases h⟩, by simp; omega, by omega⟩
                      case measure => simp only [intOf]; omega
                    · have hbq : (x == [63]) = false := by rw [beq_eq_false_iff_ne]; exact hxq
                      have HXQ := Lib.hid (show qmP x = x by unfold qmP; rw [if_neg hxq])
                      clear hxq
                      have r1a : (wr.alloc (.cells #[sv x] 9)).cell? ⟨w3.heap.size, 1, none⟩ = some (.slice au u.length cu) := (Below.cell (kp_alloc wr _) (p := ⟨w3.heap.size, 1, none⟩) (World.block_lt_of_cell? wr _ r1)).trans r1
                      go_wp2_with fail
                      go_region_law (refine step_append_lies _ rfl (.tmp 105) (.tmp 110) 23 rfl (w3.heap.size + 1) 9 i0 (.string ByteArray.empty) 1 16 Tryz.underlying23 HA.out.1 HA.out.2.1 HA.out.2.2.1 HA.out.2.2.2 rfl (by decide) (.slice au u.length cu) u.length (u.map sv) rfl ?_ ⟨wr.heap.size, 0, none⟩ 1 1 [sv x] rfl rfl ?_ ?_ ?_ ?_ ?_ ?_ (wr.heap.size + 1) ?_ ?_; (first | exact own_kp HI2.out.ownU ((kp_alloc _ _).then (Kp.drew _)) | exact own_kp HI2.out.ownU ((Kp.drew _).then (kp_alloc _ _)) | exact own_kp HI2.out.ownU (kp_alloc _ _)); ((intro t z h; match t, h with | 0, h => simp at h; subst h; simp [Addr.add])); ((intro z hz; simp at hz; subst hz; rfl)); (omega); (unfold maxLen; omega); (omega); (have := HI2.out.big; simp; omega); (simp); (intro g cap5 w5 hown5 hgrow5 _ _; obtain ⟨p1, p2, p3, p4, p5⟩ := hgrow5; have HG := Lib.hid (show (wr.alloc (.cells #[sv x] 9)).grownBy w5 (Value.slice au u.length cu).ownBlock from ⟨p1, p2, p3, p4, p5⟩); have HO5 := Lib.hid hown5; obtain ⟨c5, f5⟩ := RfI.q5U HI2.out HG.out; clear p1 p2 p3 p4 p5 hown5))
                      all_goals (try go_wp2_with fail)
                      all_goals (try go_roundw)
                      all_goals first | exact ⟨m + 1, u ++ [x], n, _, _, true, by omega, by go_num, rfl, RfI.unit HI2.out HO5.out HG.out, ⟨fun _ => ⟨by rw [HS.out, fitQ, if_neg HX0.out, if_pos rfl, HXQ.out], HFW.out⟩, fun h => by cases h⟩, by simp; omega, by omega⟩ | exact ⟨⟨m + 1, u ++ [x], n, _, _, true, by omega, by go_num, rfl, RfI.unit HI2.out HO5.out HG.out, ⟨fun _ => ⟨by rw [HS.out, fitQ, if_neg HX0.out, if_pos rfl, HXQ.out], HFW.out⟩, fun h => by cases h⟩, by simp; omega, by omega⟩, by simp only [intOf]; omega⟩ | (simp only [intOf]; omega)
                  · have hbU : (y == [85]) = false := by rw [beq_eq_false_iff_ne]; exact hyU
                    by_cases hyN : y = [88]
                    · subst hyN
                      have HU88 := Lib.hid hyU
                      clear hyU
                      have r2a : (wr.alloc (.cells #[sv x] 46)).cell? ⟨w3.heap.size, 2, none⟩ = some (.slice an n.length cn) := (Below.cell (kp_alloc wr _) (p := ⟨w3.heap.size, 2, none⟩) (World.block_lt_of_cell? wr _ r2)).trans r2
                      go_wp2_with fail
                      go_region_law (refine step_append_lies _ rfl (.tmp 120) (.tmp 125) 24 rfl (w3.heap.size + 1) 46 i1 (.string ByteArray.empty) 1 16 Tryz.underlying24 HB.out.1 HB.out.2.1 HB.out.2.2.1 HB.out.2.2.2 rfl (by decide) (.slice an n.length cn) n.length (n.map sv) rfl ?_ ⟨wr.heap.size, 0, none⟩ 1 1 [sv x] rfl rfl ?_ ?_ ?_ ?_ ?_ ?_ (wr.heap.size + 1) ?_ ?_; (first | exact own_kp HI2.out.ownN ((kp_alloc _ _).then (Kp.drew _)) | exact own_kp HI2.out.ownN ((Kp.drew _).then (kp_alloc _ _)) | exact own_kp HI2.out.ownN (kp_alloc _ _)); ((intro t z h; match t, h with | 0, h => simp at h; subst h; simp [Addr.add])); ((intro z hz; simp at hz; subst hz; rfl)); (omega); (unfold maxLen; omega); (omega); (have := HI2.out.big; simp; omega); (simp); (intro g cap5 w5 hown5 hgrow5 _ _; obtain ⟨p1, p2, p3, p4, p5⟩ := hgrow5; have HG := Lib.hid (show (wr.alloc (.cells #[sv x] 46)).grownBy w5 (Value.slice an n.length cn).ownBlock from ⟨p1, p2, p3, p4, p5⟩); have HO5 := Lib.hid hown5; obtain ⟨c5, f5⟩ := RfI.q5N HI2.out HG.out; clear p1 p2 p3 p4 p5 hown5))
                      all_goals (try go_wp2_with fail)
                      all_goals (try go_roundw)
                      all_goals first | exact ⟨m + 1, u, n ++ [x], _, _, true, by omega, by go_num, rfl, RfI.number HI2.out HO5.out HG.out, ⟨fun _ => ⟨by rw [HS.out, fitQ, if_neg HX0.out, if_neg HU88.out, if_pos rfl], HFW.out⟩, fun h => by cases h⟩, by omega, by simp; omega⟩ | exact ⟨⟨m + 1, u, n ++ [x], _, _, true, by omega, by go_num, rfl, RfI.number HI2.out HO5.out HG.out, ⟨fun _ => ⟨by rw [HS.out, fitQ, if_neg HX0.out, if_neg HU88.out, if_pos rfl], HFW.out⟩, fun h => by cases h⟩, by omega, by simp; omega⟩, by simp only [intOf]; omega⟩ | (simp only [intOf]; omega)
                    · have hbN : (y == [88]) = false := by rw [beq_eq_false_iff_ne]; exact hyN
                      by_cases hyx : y = x
                      · subst hyx
                        have HY := Lib.hid (And.intro hyU hyN)
                        clear hyU hyN r1 r2
                        go_wp2_with fail
                        go_region
                        go_wp2_with fail
                        go_roundw
                        case rel => exact ⟨m + 1, u, n, _, _, true, by omega, by go_num, rfl, (by first | exact HI2.out | exact RfI.drew HI2.out), ⟨fun _ => ⟨by rw [HS.out, fitQ, if_neg HX0.out, if_neg HY.out.1, if_neg HY.out.2, if_pos rfl], HFW.out⟩, fun h => by cases h⟩, by omega, by omega⟩
                        case measure => simp only [intOf]; omega
                      · have HY := Lib.hid (And.intro hyU (And.intro hyN hyx))
                        have hbx : (y == x) = false := by rw [beq_eq_false_iff_ne]; exact hyx
                        clear hyU hyN hyx r1 r2
                        go_wp2_with fail
                        go_region
                        go_wp2_with fail
                        go_roundw
                        case rel => exact ⟨m + 1, u, n, _, _, false, by omega, by go_num, rfl, (by first | exact HI2.out | exact RfI.drew HI2.out), ⟨fun h => (by cases h), fun _ => by rw [HS.out, fitQ, if_neg HX0.out, if_neg HY.out.1, if_neg HY.out.2.1, if_neg HY.out.2.2]⟩, by omega, by omega⟩
                        case measure => simp only [intOf]; omega
              · obtain rfl : m = F.length := by omega
                have hG : G = some (u, n) := by rw [hGm, List.drop_eq_nil_of_le (Nat.le_refl _), List.drop_eq_nil_of_le (by omega)]; rfl
                have hfit : ∃ u0, fit 78 (spl (kwB (i + 1))) ws [] [] = some (u0, n) ∧ u = u0.map qmP := by
                  have h := HFR.out
                  rw [hG] at h
                  cases hf : fit 78 (spl (kwB (i + 1))) ws [] [] with
                  | none => rw [hf] at h; cases h
                  | some p =>
                    rw [hf] at h
                    simp only [Option.map_some, Option.some.injEq, Prod.mk.injEq] at h
                    obtain ⟨p1, p2⟩ := p
                    exact ⟨p1, by rw [h.2], h.1⟩
                obtain ⟨u0, hf0, rfl⟩ := hfit
                have hfm := fit_mem hf0
                have hub : ∀ x ∈ u0.map qmP, x.length ≤ 1000 := fun x hx => by
                  obtain ⟨y, hy, rfl⟩ := List.mem_map.1 hx
                  have h1 := (hfm.1 y hy).resolve_left (by simp)
                  have h2 := HWM.out y h1
                  unfold qmP
                  split
                  · simp
                  · omega
                have hnb : ∀ x ∈ n, x.length ≤ 1000 := fun x hx => by
                  have h1 := (hfm.2 x hx).resolve_left (by simp)
                  have h2 := HWM.out x h1
                  omega
                have HRR := Lib.hid (show R = some (i, u0, n) by rw [HR.out, ← HWS.out]; exact prs_some hlt HNO.out hf0)
                have HBB := Lib.hid (And.intro hub hnb)
                have HUL := Lib.hid (And.intro hu hn)
                have hQ2 := HQ.out
                rw [List.length_map] at hQ2
                have HQ2 := Lib.hid hQ2
                clear hQ2
                clear hub hnb hfm hf0 hG hGm hFW hml hu hn
                go_wp2_with fail
                obtain ⟨E, hE⟩ : ∃ E, E = shpE ((i : Int) + 1) (u0.map qmP) n := ⟨_, rfl⟩
                refine Calls.mono (shapeL_in ((i : Int) + 1) (by omega) _ _ (u0.map qmP) n E hE HBB.out.1 HBB.out.2 _ ?a1 ?a2 ?a3 ?a4 ?a5) ?_
                case a1 => have h := Sts.ownV HI2.out.ownU; rw [List.length_map] at h; exact h
                case a2 => exact Sts.ownV HI2.out.ownN
                case a3 => have := HUL.out.1; omega
                case a4 => have := HUL.out.2; omega
                case a5 => exact HT.out.kp (HK.out.then (HK3.out.then HI2.out.below))
                rintro e w4 ⟨rfl, hk4⟩
                have HE := Lib.hid hE
                have hq4 : w4.heap[w3.heap.size]? = some (.cells #[.int .i64 ((i : Int) + 1), .slice au u0.length cu, .slice an n.length cn] 26 (0, 0)) := (hk4.block _ (Array.getElem?_eq_some_iff.1 HQ2.out).1).trans HQ2.out
                have hz4 : w4.heap[w.heap.size]? = some (.cells #[.int .i64 0, .slice none 0 0, .slice none 0 0] 26 (0, 0)) := ((HK3.out.then (Kp.then HI2.out.below hk4)).block _ (Array.getElem?_eq_some_iff.1 HZ.out).1).trans HZ.out
                have z0 : w4.cell? ⟨w.heap.size, 0, none⟩ = some (.int .i64 0) := by rw [Lib.cell_of_heap hz4]; rfl
                have z1 : w4.cell? ⟨w.heap.size, 1, none⟩ = some (.slice none 0 0) := by rw [Lib.cell_of_heap hz4]; rfl
                have z2 : w4.cell? ⟨w.heap.size, 2, none⟩ = some (.slice none 0 0) := by rw [Lib.cell_of_heap hz4]; rfl
                have zf : ∀ j, w4.frozen? ⟨w.heap.size, j, none⟩ = false := fun j => Lib.frozen_of_heap hz4 j
                have q0 : w4.cell? ⟨w3.heap.size, 0, none⟩ = some (.int .i64 ((i : Int) + 1)) := by rw [Lib.cell_of_heap hq4]; rfl
                have q1 : w4.cell? ⟨w3.heap.size, 1, none⟩ = some (.slice au u0.length cu) := by rw [Lib.cell_of_heap hq4]; rfl
                have q2 : w4.cell? ⟨w3.heap.size, 2, none⟩ = some (.slice an n.length cn) := by rw [Lib.cell_of_heap hq4]; rfl
                have HZ4 := Lib.hid hz4
                have HK34 := Lib.hid hk4
                have HK4 := Lib.hid (HK.out.then (HK3.out.then (Kp.then HI2.out.below hk4)))
                have hsu := Sts.ownV HI2.out.ownU
                rw [List.length_map] at hsu
                have HSU := Lib.hid hsu
                clear hsu
                have HSN := Lib.hid (Sts.ownV HI2.out.ownN)
                clear hE hk4 hq4 hz4 r0 r1 r2
                by_cases hE0 : E = 0
                · have HE0 := Lib.hid hE0
                  subst hE0
                  go_wp2_with fail
                  refine bodyPost_ret (results_cellT (t := 2) (u := 3) (ty := 26) rfl rfl (set3_zero HZ4.out _ _ _) Tryz.underlying26 rfl (by kernel_rfl) rfl) rfl ?_
                  refine ⟨_, _, rfl, ?_, kp_set3 HK4.out (Nat.le_refl _) _ _ _⟩
                  rw [HRR.out]
                  refine ⟨HE.out, fun h => absurd rfl h, fun _ => ⟨_, _, rfl, ?_, ?_⟩⟩
                  · exact sts_set3 HK34.out HZ4.out HSU.out _ _
                  · exact sts_set3 HK34.out HZ4.out HSN.out _ _
                · have hEb : (E != 0) = true := by rw [bne_iff_ne]; exact hE0
                  have HE0 := Lib.hid hE0
                  clear hE0
                  go_wp2_with fail
                  refine bodyPost_ret (results_cellT (t := 2) (u := 3) (ty := 26) rfl rfl (set3_zero HZ4.out _ _ _) Tryz.underlying26 rfl (by kernel_rfl) rfl) rfl ?_
                  refine ⟨_, _, rfl, ?_, kp_set3 HK4.out (Nat.le_refl _) _ _ _⟩
                  rw [HRR.out]
                  exact ⟨HE.out, fun _ => rfl, fun h => absurd h HE0.out⟩
        · obtain rfl : i = 11 := by omega
          have HRR := Lib.hid (show R = none by rw [HR.out, ← HWS.out]; exact prs_none HNO.out)
          have hz4 : w2.heap[w.heap.size]? = some (.cells #[.int .i64 0, .slice none 0 0, .slice none 0 0] 26 (0, 0)) := (HL.out.block _ (Array.getElem?_eq_some_iff.1 HZ.out).1).trans HZ.out
          have z0 : w2.cell? ⟨w.heap.size, 0, none⟩ = some (.int .i64 0) := by rw [Lib.cell_of_heap hz4]; rfl
          have z1 : w2.cell? ⟨w.heap.size, 1, none⟩ = some (.slice none 0 0) := by rw [Lib.cell_of_heap hz4]; rfl
          have z2 : w2.cell? ⟨w.heap.size, 2, none⟩ = some (.slice none 0 0) := by rw [Lib.cell_of_heap hz4]; rfl
          have zf : ∀ j, w2.frozen? ⟨w.heap.size, j, none⟩ = false := fun j => Lib.frozen_of_heap hz4 j
          have HZR := Lib.hid hz4
          clear hz4
          go_wp2_with fail
          refine bodyPost_ret (results_cellT (t := 2) (u := 3) (ty := 26) rfl rfl (set3_zero HZR.out _ _ _) Tryz.underlying26 rfl (by kernel_rfl) rfl) rfl ?_
          refine ⟨_, _, rfl, by rw [HRR.out]; exact ⟨rfl, rfl⟩, kp_set3 (HK.out.then HL.out) (Nat.le_refl _) _ _ _⟩
end Go.Proofs.YtjcfejncjdhplaaGreatDoor
