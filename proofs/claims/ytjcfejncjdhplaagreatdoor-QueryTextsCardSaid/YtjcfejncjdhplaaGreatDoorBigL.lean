/-
  klippe/integer: Gcd of integers of any length.
-/
import Derived.Test.YtjcfejncjdhplaaGreatDoorBigK
import Derived.Test.YtjcfejncjdhplaaGreatDoorBigH
import Derived.Test.YtjcfejncjdhplaaGreatDoorBigX
set_option linter.unusedSectionVars false
set_option linter.unusedVariables false
set_option linter.unusedSimpArgs false
namespace Go.Proofs.YtjcfejncjdhplaaGreatDoor
open Go.RowKit Go Klp Go.Shelf
attribute [local go_sem] Oper.semAt_some
def sg (m : Bool) : List UInt8 := if m then [45] else []
theorem sg_len (m : Bool) : (sg m).length ≤ 1 := by cases m <;> simp [sg]
theorem pc_drop9 {B : Int} {l : List Int} (h : Pc B l) (n : Nat) : Pc B (l.drop n) := by
  refine ⟨h.1.drop n, fun x hx => ?_⟩
  rw [List.getLast?_drop] at hx
  split at hx
  · cases hx
  · exact h.2 x hx
def txtF (n : Nat) (pre : List (Nat × Int)) : List UInt8 := pre.foldl (fun acc p => acc ++ (if p.1 + 1 < n then pad 9 p.2.toNat else Lib.decDigits p.2.toNat)) []
theorem txtF_snoc (n : Nat) (pre : List (Nat × Int)) (p : Nat × Int) : txtF n (pre ++ [p]) = txtF n pre ++ (if p.1 + 1 < n then pad 9 p.2.toNat else Lib.decDigits p.2.toNat) := by simp [txtF]
theorem txtF_down {la : List Int} (pc : Pc 1000000000 la) : ∀ k, 1 ≤ k → k ≤ la.length → txtF la.length ((downB la k).map (·.1)) = Lib.decDigits (pv 1000000000 (la.drop (la.length - k))).toNat
  | 0, h, _ => by omega
  | k + 1, _, hk => by
    obtain ⟨m, hm⟩ : ∃ m, m = la.length - 1 - k := ⟨_, rfl⟩
    have hml : m < la.length := by omega
    rw [downB_succ la k m hm hml, List.map_append, List.map_cons, List.map_nil, txtF_snoc]
    rw [show la.length - (k + 1) = m from by omega]
    by_cases hk0 : k = 0
    · subst hk0
      rw [if_neg (by simp; omega)]
      have e : la.drop (m + 1) = [] := List.drop_eq_nil_of_le (by omega)
      rw [pv_drop _ la m hml, e]
      simp [downB, txtF, pv]
    · rw [txtF_down pc k (by omega) (by omega), if_pos (by simp; omega), show la.length - k = m + 1 from by omega]
      have hp : 0 < pv 1000000000 (la.drop (m + 1)) := by
        have h1 := (pc_drop9 pc (m + 1)).ge (B := 1000000000) (by omega) (by rw [List.length_drop]; omega)
        have h2 := ipow_pos (B := 1000000000) (by omega) ((la.drop (m + 1)).length - 1)
        omega
      exact (dec_piece (B := 1000000000) (k := 9) (by decide) hml pc.1 hp).symm
theorem bat_own {B b : Nat} {p : Value} {bs : List Value} {A W : World} {row : Option Nat} (h : BAt B b p bs A) (hg : A.grownBy W row) (hr : ∀ r, row = some r → ∃ o : Obj, A.heap[r]? = some o ∧ o.isCells = false) : BAt B b p bs W := by
  obtain ⟨hB, v, hb, hown, hne⟩ := h
  refine ⟨hB, v, blk_own hg hr hb, ?_, hne⟩
  rcases hown.2 with h0 | ⟨g, cap, cur, h', hBg, hgg, hrr⟩
  · exact ⟨hown.1, .inl h0⟩
  · exact ⟨hown.1, .inr ⟨g, cap, cur, h', hBg, blk_own hg hr hgg, hrr⟩⟩
theorem isb_own {B b : Nat} {bs : List Value} {A W : World} {row : Option Nat} (h : IsB B b bs A) (hg : A.grownBy W row) (hr : ∀ r, row = some r → ∃ o : Obj, A.heap[r]? = some o ∧ o.isCells = false) : IsB B b bs W := by
  rcases h with h | h
  · exact .inl (bat_own h hg hr)
  · exact .inr (bat_own h hg hr)
theorem bat_kp {B b : Nat} {p : Value} {bs : List Value} {A W : World} (h : BAt B b p bs A) (hk : Kp A W) : BAt B b p bs W := by
  obtain ⟨hB, v, hb, hown, hne⟩ := h
  exact ⟨hB, v, (hk.block _ (Array.getElem?_eq_some_iff.1 hb).1).trans hb, own_kp hown hk, hne⟩
theorem isb_kp {B b : Nat} {bs : List Value} {A W : World} (h : IsB B b bs A) (hk : Kp A W) : IsB B b bs W := by
  rcases h with h | h
  · exact .inl (bat_kp h hk)
  · exact .inr (bat_kp h hk)
theorem keepN_from {b B : Nat} {W W' : World} {cs : Array Value} {T : Nat} {fr : Nat × Nat} (h : KeepN b W W') (hs : W.heap.size ≤ W'.heap.size) (hb : W.heap[b]? = some (.cells cs T fr)) : KeepsFrom B W W' :=
  ⟨hs, fun k o _ hk ho => h k o hk (fun e => by subst e; rw [hb] at hk; cases hk; cases ho) (fun cs fr e => by subst e; cases ho)⟩
structure CloI (w0 : World) (Bs : Nat) (nv : Value) (m : Bool) (la : List Int) (pre : List (Pz la)) (W : World) : Prop where
  num : W.heap[w0.heap.size]? = some (.cells #[.bool m, nv] 192 (0, 0))
  bld : IsB (w0.heap.size + 1) (w0.heap.size + 1) (Lib.byteCells (sg m ++ txtF la.length (pre.map (·.1)))) W
  len : (txtF la.length (pre.map (·.1))).length ≤ 20 * pre.length
  below : Below w0.heap.size w0 W
  itr : Boxed W Bs 190 nv
theorem cloI_own {w0 : World} {Bs : Nat} {nv : Value} {m : Bool} {la : List Int} {B : Nat} (hB : w0.heap.size ≤ B) : OwnFrom B (CloI w0 Bs nv m la) := fun s W W' row hs hg hr => by
  have hr' : ∀ r, row = some r → ∃ o : Obj, W.heap[r]? = some o ∧ o.isCells = false := fun r e => (hr r e).2
  exact ⟨blk_own hg hr' hs.num, isb_own hs.bld hg hr', hs.len, hs.below.grown hg hs.below.size (fun k e => Nat.le_trans hB (hr k e).1), blk_own hg hr' hs.itr⟩
theorem CloI.kp {w0 : World} {Bs : Nat} {nv : Value} {m : Bool} {la : List Int} {pre : List (Pz la)} {W W' : World} (h : CloI w0 Bs nv m la pre W) (hk : Kp W W') : CloI w0 Bs nv m la pre W' :=
  ⟨(hk.block _ (Array.getElem?_eq_some_iff.1 h.num).1).trans h.num, isb_kp h.bld hk, h.len, Kp.then h.below hk, (hk.block _ h.itr.lt).trans h.itr⟩
theorem isb_block {B b : Nat} {bs : List Value} {W : World} (h : IsB B b bs W) : ∃ cs, W.heap[b]? = some (.cells cs 115 (0, 0)) := by
  rcases h with ⟨_, v, h, _⟩ | ⟨_, v, h, _⟩
  · exact ⟨_, h⟩
  · exact ⟨_, h⟩
theorem cloI_step {w0 : World} {Bs bp B : Nat} {nv : Value} {m : Bool} {la : List Int} {pre : List (Pz la)} {x : Pz la} {W W' : World} {s : List UInt8} (h : CloI w0 Bs nv m la pre W) (hk : KeepN (w0.heap.size + 1) W W') (hb : Below (w0.heap.size + 1) W W') (hBs : w0.heap.size + 2 ≤ Bs) (hbp : bp < w0.heap.size)
    (hs : s = (if x.1.1 + 1 < la.length then pad 9 x.1.2.toNat else Lib.decDigits x.1.2.toNat)) (h20 : s.length ≤ 20) (hn : IsB (w0.heap.size + 1) (w0.heap.size + 1) (Lib.byteCells ((sg m ++ txtF la.length (pre.map (·.1))) ++ s)) W') :
    KeepsFrom B W W' ∧ Keep2 Bs bp W W' ∧ CloI w0 Bs nv m la (pre ++ [x]) W' := by
  obtain ⟨cs, hbk⟩ := isb_block h.bld
  have hlt := (Array.getElem?_eq_some_iff.1 h.num).1
  have e : txtF la.length ((pre ++ [x]).map (·.1)) = txtF la.length (pre.map (·.1)) ++ s := by
    rw [List.map_append, List.map_cons, List.map_nil, txtF_snoc, hs]
  have hit : W'.heap[Bs]? = some (.cells #[nv] 190 (0, 0)) := hk Bs _ h.itr (by omega) (fun cs fr e => by cases e)
  refine ⟨keepN_from hk hb.size hbk, ⟨hit.trans (show W.heap[Bs]? = _ from h.itr).symm, hb.block bp (by omega)⟩, ?_⟩
  refine ⟨(hb.block _ (by omega)).trans h.num, ?_, ?_, h.below.trans (hb.mono (by omega)), hit⟩
  · rw [e, ← List.append_assoc]; exact hn
  · rw [e, List.length_append, List.length_append]; have := h.len; simp; omega
theorem zeros_ext (k : Nat) (hk : k ≤ 9) : (⟨#[48, 48, 48, 48, 48, 48, 48, 48, 48]⟩ : ByteArray).extract k 9 = ⟨(List.replicate (9 - k) (48 : UInt8)).toArray⟩ := by
  rcases (show k = 0 ∨ k = 1 ∨ k = 2 ∨ k = 3 ∨ k = 4 ∨ k = 5 ∨ k = 6 ∨ k = 7 ∨ k = 8 ∨ k = 9 by omega) with rfl | rfl | rfl | rfl | rfl | rfl | rfl | rfl | rfl | rfl <;> decide
set_option maxRecDepth 100000 in
set_option maxHeartbeats 8000000 in
theorem close_in (la : List Int) (vp : Value) (m : Bool) (w : World) (hl : la.length ≤ 300) (h : Sls w .u64 vp la) (pc : Pc 1000000000 la) (hne : 0 < la.length) (ht : PTab w) :
    CallsIn Fence.wide 5 Tryz.prog 113 #[.agg #[.bool m, vp]] w fun e w' => e = .returned (.string ⟨(sg m ++ Lib.decDigits (pv 1000000000 la).toNat).toArray⟩) ∧ Kp w w' := by
  obtain ⟨ap, cp, rfl, hcap⟩ := h.val
  obtain ⟨bp, op, rfl⟩ := h.addr hne
  have HS := Lib.hid h; clear h
  have PC := Lib.hid pc; clear pc
  have HT := Lib.hid ht; clear ht
  have hn0 : ((la.length : Int) == 0) = false := by rw [beq_eq_false_iff_ne]; omega
  refine callsIn_of_wp_marks Tryz.func113 rfl trivial ?_ rfl
  simp only [Tryz.ntmps113, List.size_toArray, List.length_cons, List.length_nil, Nat.reduceAdd, Nat.reduceSub, Array.replicate_succ, Array.replicate_zero, List.push_toArray, List.append_toArray, List.nil_append, List.cons_append]
  have hnum0 : ((w.alloc (.cells #[.bool m, .slice (some ⟨bp, op, none⟩) la.length cp] 192)).alloc (.cells #[.pointer none, .slice none 0 0] 115)).heap[w.heap.size]? = some (.cells #[.bool m, .slice (some ⟨bp, op, none⟩) la.length cp] 192 (0, 0)) := (Below.heap_alloc _ _ _ (by simp)).trans (heap_alloc_new w _)
  have hbld0 : IsB (w.heap.size + 1) (w.heap.size + 1) [] ((w.alloc (.cells #[.bool m, .slice (some ⟨bp, op, none⟩) la.length cp] 192)).alloc (.cells #[.pointer none, .slice none 0 0] 115)) := by
    have := Lib.fresh_isBuilder 115 5 (w.alloc (.cells #[.bool m, .slice (some ⟨bp, op, none⟩) la.length cp] 192))
    rw [World.size_alloc] at this
    exact this
  have hbel0 : Below w.heap.size w ((w.alloc (.cells #[.bool m, .slice (some ⟨bp, op, none⟩) la.length cp] 192)).alloc (.cells #[.pointer none, .slice none 0 0] 115)) := (kp_alloc _ _).then (kp_alloc _ _)
  have hsz0 : ((w.alloc (.cells #[.bool m, .slice (some ⟨bp, op, none⟩) la.length cp] 192)).alloc (.cells #[.pointer none, .slice none 0 0] 115)).heap.size = w.heap.size + 2 := by simp
  cases m
  · have HX0 := Lib.hid (And.intro hnum0 (And.intro hbld0 (And.intro hbel0 hsz0)))
    clear hnum0 hbld0 hbel0 hsz0
    gi_wp2_with fail
    have hX := HX0.out
    clear HX0
    generalize (w.alloc (Obj.cells #[Value.bool false, Value.slice (some ⟨bp, op, none⟩) la.length cp] 192)).alloc (Obj.cells #[Value.pointer none, Value.slice none 0 0] 115) = X at hX ⊢
    obtain ⟨hnum, hbld, hbel, hsz⟩ := hX
    have hszX : w.heap.size + 2 ≤ X.heap.size := by omega
    clear hsz
    refine ⟨trivial, (back_in Fence.wide 4 trivial rfl (some ⟨bp, op, none⟩) la.length cp X).mono ?_⟩
    rintro e w' ⟨rfl, rfl⟩
    obtain ⟨W0, hW0⟩ : ∃ W0, X.alloc (.cells #[.slice (some ⟨bp, op, none⟩) la.length cp] 190) = W0 := ⟨_, rfl⟩
    have hBs : Boxed W0 X.heap.size 190 (.slice (some ⟨bp, op, none⟩) la.length cp) := by rw [← hW0]; exact Boxed.new X _ _
    have hkX : Kp X W0 := by rw [← hW0]; exact kp_alloc _ _
    have hI0 : CloI w X.heap.size (.slice (some ⟨bp, op, none⟩) la.length cp) false la [] W0 := ⟨(hkX.block _ (by omega)).trans hnum, isb_kp hbld hkX, by simp [txtF], Kp.then hbel hkX, hBs⟩
    have hsl : Sls W0 .u64 (.slice (some ⟨bp, op, none⟩) la.length cp) la := HS.out.kp (Kp.then hbel hkX)
    have HI0 := Lib.hid (And.intro hI0 (And.intro hsl hBs))
    rw [hW0]
    clear hI0 hsl hBs hW0 hnum hbld
    gi_wp2_with fail
    obtain ⟨hI0, hsl, hBs⟩ := HI0.out
    refine wpIn_rangeFunc_ownG (a₁ := ?a1) rfl (by omega) (gf := 247) (lb := #[.pointer (some ⟨X.heap.size, 0, none⟩)]) rfl trivial (enters_of Tryz.func247 (by kernel_rfl) rfl)
      (back_stops Fence.wide 4 trivial rfl (by omega) X.heap.size bp op cp la (by omega) hne W0 hBs.lt hBs.cell hsl) Keep2.trans (Keep2.put hBs.lt (World.block_lt_of_cell? W0 _ (hsl.cells (Kp.refl _) hne))) (Below.refl _ _) (fun _ => rfl)
      (CloI w X.heap.size (.slice (some ⟨bp, op, none⟩) la.length cp) false la) (fun _ _ _ => False)
      (cloI_own (by have := hI0.below.size; exact this)) (fun _ _ _ _ _ hs _ _ => hs) hI0 ?assign ?body ?done ?stop
    case assign =>
      intro l x W K hK
      gi_wp2
      exact hK
    case body =>
      rintro l pre px W hC hlen
      have HC := Lib.hid hC
      clear hC
      obtain ⟨hpi, hpx⟩ := px.2
      have hxb := PC.out.1.at hpi
      rw [← hpx] at hxb
      obtain ⟨i, hi⟩ : ∃ i, px.1.1 = i := ⟨_, rfl⟩
      obtain ⟨u, hu⟩ : ∃ u : Nat, px.1.2 = (u : Int) := ⟨px.1.2.toNat, by omega⟩
      rw [hi] at hpi
      rw [hu] at hxb
      simp only [hi, hu]
      have HXI := Lib.hid (And.intro hi hu)
      clear hpx hi hu
      have hi : i < la.length := hpi
      clear hpi
      have hu9 : (Lib.decDigits u).length ≤ 9 := dec_len (by omega) (by omega)
      have hu64 : u < 18446744073709551616 := by omega
      have hup : u < 10 ^ 9 := by have h10 : (10 : Nat) ^ 9 = 1000000000 := by decide
                                  omega
      have hbp := World.block_lt_of_cell? w _ (HS.out.cells (Kp.refl _) (i := 0) hne)
      have hbp' : bp < w.heap.size := hbp
      have hszX2 := hszX
      have hlen300 : pre.length ≤ 300 := by omega
      clear hbp hxb
      gi_wp2_with fail
      refine ⟨trivial, (CallsIn.inRound l (callsIn_wide.2 (fmtU_walk u hu64 _ (HT.out.kp HC.out.below)))).mono ?_⟩
      rintro e W1 ⟨rfl, hk1⟩
      have HC1 := Lib.hid (HC.out.kp hk1)
      have HK1 := Lib.hid hk1
      clear hk1
      have g1 : W1.cell? ⟨w.heap.size, 1, none⟩ = some (.slice (some ⟨bp, op, none⟩) la.length cp) := by rw [Lib.cell_of_heap HC1.out.num]; rfl
      have hszW := HC1.out.below.size
      have hlt1 := (Array.getElem?_eq_some_iff.1 (isb_block HC1.out.bld).choose_spec).1
      have hl1 := HC1.out.len
      have HL1 := Lib.hid hl1
      have HLT := Lib.hid hlt1
      clear hl1 hlt1 hszW
      by_cases hlast : i + 1 < la.length
      · have hz := zeros_ext (Lib.decDigits u).length hu9
        have hp := pad_eq 9 u (by omega) hup
        have HP := Lib.hid hp
        have HZ := Lib.hid hz
        have hlz : (⟨(Lib.decDigits u).toArray⟩ : ByteArray).size = (Lib.decDigits u).length := size_mk _
        have hli : (i : Int) < (la.length : Int) - 1 := by omega
        clear hp
        generalize Lib.decDigits u = s at *
        gi_wp2_with fail
        refine ⟨trivial, (CallsIn.inRound l (callsIn_wide.2 (writeStr_walk (w.heap.size + 1) (w.heap.size + 1) _ ⟨(List.replicate (9 - s.length) (48 : UInt8)).toArray⟩ _ HC1.out.bld (by rw [Lib.byteCells_length, List.length_append, size_mk, List.length_replicate]; have := HL1.out; have h45 := sg_len false; omega) (by have := HLT.out; omega)))).mono ?_⟩
        rintro e W2 ⟨rfl, hb2, hbel2, hkn2⟩
        have HB2 := Lib.hid (And.intro hb2 (And.intro hbel2 hkn2))
        clear hb2 hbel2 hkn2
        gi_wp2_with fail
        refine ⟨trivial, (CallsIn.inRound l (callsIn_wide.2 (writeStr_walk (w.heap.size + 1) (w.heap.size + 1) _ ⟨s.toArray⟩ _ (.inr HB2.out.1) (by rw [List.length_append, Lib.byteCells_length, Lib.strCells_length, List.length_append, size_mk, size_mk, List.length_replicate]; have := HL1.out; have h45 := sg_len false; omega) (by have := HLT.out; have := HB2.out.2.1.size; omega)))).mono ?_⟩
        rintro e W3 ⟨rfl, hb3, hbel3, hkn3⟩
        have HB3 := Lib.hid (And.intro hb3 (And.intro hbel3 hkn3))
        clear hb3 hbel3 hkn3
        gi_wp2_with fail
        refine cloI_step (x := px) (s := pad 9 u) HC.out (((KeepN.kp HK1.out).trans HB2.out.2.2).trans HB3.out.2.2) (((HK1.out.mono (by have := HC.out.below.size; have := (Array.getElem?_eq_some_iff.1 (isb_block HC.out.bld).choose_spec).1; omega)).trans HB2.out.2.1).trans HB3.out.2.1) hszX hbp' (by rw [HXI.out.1, HXI.out.2, if_pos hlast, Int.toNat_natCast]) (by rw [pad_len]; omega) ?_
        have h1 := HB3.out.1
        rw [Lib.strCells_toArray, Lib.strCells_toArray, List.append_assoc, ← Lib.byteCells_append, ← HP.out, ← Lib.byteCells_append] at h1
        exact .inr h1
      · have hli : ¬ (i : Int) < (la.length : Int) - 1 := by omega
        generalize hgs : Lib.decDigits u = s at *
        have HGS := Lib.hid hgs
        clear hgs
        gi_wp2_with fail
        refine ⟨trivial, (CallsIn.inRound l (callsIn_wide.2 (writeStr_walk (w.heap.size + 1) (w.heap.size + 1) _ ⟨s.toArray⟩ _ HC1.out.bld (by rw [Lib.byteCells_length, List.length_append, size_mk]; have := HL1.out; have h45 := sg_len false; omega) (by have := HLT.out; omega)))).mono ?_⟩
        rintro e W3 ⟨rfl, hb3, hbel3, hkn3⟩
        have HB3 := Lib.hid (And.intro hb3 (And.intro hbel3 hkn3))
        clear hb3 hbel3 hkn3
        gi_wp2_with fail
        refine cloI_step (x := px) (s := s) HC.out ((KeepN.kp HK1.out).trans HB3.out.2.2) ((HK1.out.mono (by have := HC.out.below.size; have := (Array.getElem?_eq_some_iff.1 (isb_block HC.out.bld).choose_spec).1; omega)).trans HB3.out.2.1) hszX hbp' (by rw [HXI.out.1, HXI.out.2, if_neg hlast, Int.toNat_natCast, HGS.out]) (by omega) ?_
        have h1 := HB3.out.1
        rw [Lib.strCells_toArray, ← Lib.byteCells_append] at h1
        exact .inr h1
    case done =>
      rintro D xs W hD rfl hI hDf
      have HI := Lib.hid hI
      have HDf := Lib.hid hDf
      clear hI hDf
      gi_wp2_with fail
      have htx := txtF_down PC.out la.length (by omega) (Nat.le_refl _)
      rw [Nat.sub_self, List.drop_zero] at htx
      have hbl := HI.out.bld
      rw [htx] at hbl
      have hdp := dec_pos (pv 1000000000 la).toNat
      have hnl : sg false ++ Lib.decDigits (pv 1000000000 la).toNat ≠ [] := by
        intro e
        have := congrArg List.length e
        rw [List.length_append, List.length_nil] at this
        omega
      have HBL := Lib.hid (And.intro hbl hnl)
      clear htx hbl hdp hnl
      refine ⟨trivial, (callsIn_wide.2 (strg_walk (w.heap.size + 1) (w.heap.size + 1) _ W HBL.out.1 HBL.out.2)).mono ?_⟩
      rintro e W3 ⟨rfl, hb3, hkn⟩
      have hD3 : W3.heap[D]? = some (.deferred (some [])) := hkn D _ HDf.out (by have := hkX.size; omega) (fun cs fr e => by cases e)
      have HB3 := Lib.hid (And.intro hb3 hD3)
      clear hb3 hD3 hkn
      gi_wp2_with fail
      refine ⟨by simp, .inl ⟨_, _, rfl, run_takeDeferred HB3.out.2, ?_⟩⟩
      have hle := hkX.size
      refine ⟨_, results_tmp rfl _ _ _, rfl, ?_⟩
      have h1 : Below w.heap.size w W3 := HI.out.below.trans (HB3.out.1.mono (Nat.le_succ _))
      exact h1.trans ⟨rfl, rfl, rfl, by simp [World.putObj], fun k hk => World.putObj_heap_other (by omega)⟩
    case stop =>
      rintro D c pre W _ _ h _
      exact h.elim
  · have HX0 := Lib.hid (And.intro hnum0 (And.intro hbld0 (And.intro hbel0 hsz0)))
    clear hnum0 hbld0 hbel0 hsz0
    gi_wp2_with fail
    have hX := HX0.out
    clear HX0
    generalize (w.alloc (Obj.cells #[Value.bool true, Value.slice (some ⟨bp, op, none⟩) la.length cp] 192)).alloc (Obj.cells #[Value.pointer none, Value.slice none 0 0] 115) = X0 at hX ⊢
    obtain ⟨hnum, hbld, hbel, hsz⟩ := hX
    refine ⟨trivial, (callsIn_wide.2 (writeByte_walk (w.heap.size + 1) (w.heap.size + 1) [] 45 X0 hbld (by simp) (by omega))).mono ?_⟩
    rintro e X ⟨rfl, hbX, hbelX, hknX⟩
    have hnum : X.heap[w.heap.size]? = some (.cells #[.bool true, .slice (some ⟨bp, op, none⟩) la.length cp] 192 (0, 0)) := (hbelX.block _ (by omega)).trans hnum
    have hbld : IsB (w.heap.size + 1) (w.heap.size + 1) (Lib.byteCells (sg true ++ txtF la.length [])) X := .inr hbX
    have hszX : w.heap.size + 2 ≤ X.heap.size := by have := hbelX.size; omega
    have hbel : Below w.heap.size w X := hbel.trans (hbelX.mono (Nat.le_succ _))
    have g1 : X.cell? ⟨w.heap.size, 1, none⟩ = some (.slice (some ⟨bp, op, none⟩) la.length cp) := by rw [Lib.cell_of_heap hnum]; rfl
    have HXN := Lib.hid (And.intro hnum (And.intro hbld (And.intro hbel hszX)))
    clear hnum hbld hbel hszX hsz hbX hbelX hknX
    gi_wp2_with fail
    obtain ⟨hnum, hbld, hbel, hszX⟩ := HXN.out
    clear g1 HXN
    refine ⟨trivial, (back_in Fence.wide 4 trivial rfl (some ⟨bp, op, none⟩) la.length cp X).mono ?_⟩
    rintro e w' ⟨rfl, rfl⟩
    obtain ⟨W0, hW0⟩ : ∃ W0, X.alloc (.cells #[.slice (some ⟨bp, op, none⟩) la.length cp] 190) = W0 := ⟨_, rfl⟩
    have hBs : Boxed W0 X.heap.size 190 (.slice (some ⟨bp, op, none⟩) la.length cp) := by rw [← hW0]; exact Boxed.new X _ _
    have hkX : Kp X W0 := by rw [← hW0]; exact kp_alloc _ _
    have hI0 : CloI w X.heap.size (.slice (some ⟨bp, op, none⟩) la.length cp) true la [] W0 := ⟨(hkX.block _ (by omega)).trans hnum, isb_kp hbld hkX, by simp [txtF], Kp.then hbel hkX, hBs⟩
    have hsl : Sls W0 .u64 (.slice (some ⟨bp, op, none⟩) la.length cp) la := HS.out.kp (Kp.then hbel hkX)
    have HI0 := Lib.hid (And.intro hI0 (And.intro hsl hBs))
    rw [hW0]
    clear hI0 hsl hBs hW0 hnum hbld
    gi_wp2_with fail
    obtain ⟨hI0, hsl, hBs⟩ := HI0.out
    refine wpIn_rangeFunc_ownG (a₁ := ?a1T) rfl (by omega) (gf := 247) (lb := #[.pointer (some ⟨X.heap.size, 0, none⟩)]) rfl trivial (enters_of Tryz.func247 (by kernel_rfl) rfl)
      (back_stops Fence.wide 4 trivial rfl (by omega) X.heap.size bp op cp la (by omega) hne W0 hBs.lt hBs.cell hsl) Keep2.trans (Keep2.put hBs.lt (World.block_lt_of_cell? W0 _ (hsl.cells (Kp.refl _) hne))) (Below.refl _ _) (fun _ => rfl)
      (CloI w X.heap.size (.slice (some ⟨bp, op, none⟩) la.length cp) true la) (fun _ _ _ => False)
      (cloI_own (by have := hI0.below.size; exact this)) (fun _ _ _ _ _ hs _ _ => hs) hI0 ?assignT ?bodyT ?doneT ?stopT
    case assignT =>
      intro l x W K hK
      gi_wp2
      exact hK
    case bodyT =>
      rintro l pre px W hC hlen
      have HC := Lib.hid hC
      clear hC
      obtain ⟨hpi, hpx⟩ := px.2
      have hxb := PC.out.1.at hpi
      rw [← hpx] at hxb
      obtain ⟨i, hi⟩ : ∃ i, px.1.1 = i := ⟨_, rfl⟩
      obtain ⟨u, hu⟩ : ∃ u : Nat, px.1.2 = (u : Int) := ⟨px.1.2.toNat, by omega⟩
      rw [hi] at hpi
      rw [hu] at hxb
      simp only [hi, hu]
      have HXI := Lib.hid (And.intro hi hu)
      clear hpx hi hu
      have hi : i < la.length := hpi
      clear hpi
      have hu9 : (Lib.decDigits u).length ≤ 9 := dec_len (by omega) (by omega)
      have hu64 : u < 18446744073709551616 := by omega
      have hup : u < 10 ^ 9 := by have h10 : (10 : Nat) ^ 9 = 1000000000 := by decide
                                  omega
      have hbp := World.block_lt_of_cell? w _ (HS.out.cells (Kp.refl _) (i := 0) hne)
      have hbp' : bp < w.heap.size := hbp
      have hszX2 := hszX
      have hlen300 : pre.length ≤ 300 := by omega
      clear hbp hxb
      gi_wp2_with fail
      refine ⟨trivial, (CallsIn.inRound l (callsIn_wide.2 (fmtU_walk u hu64 _ (HT.out.kp HC.out.below)))).mono ?_⟩
      rintro e W1 ⟨rfl, hk1⟩
      have HC1 := Lib.hid (HC.out.kp hk1)
      have HK1 := Lib.hid hk1
      clear hk1
      have g1 : W1.cell? ⟨w.heap.size, 1, none⟩ = some (.slice (some ⟨bp, op, none⟩) la.length cp) := by rw [Lib.cell_of_heap HC1.out.num]; rfl
      have hszW := HC1.out.below.size
      have hlt1 := (Array.getElem?_eq_some_iff.1 (isb_block HC1.out.bld).choose_spec).1
      have hl1 := HC1.out.len
      have HL1 := Lib.hid hl1
      have HLT := Lib.hid hlt1
      clear hl1 hlt1 hszW
      by_cases hlast : i + 1 < la.length
      · have hz := zeros_ext (Lib.decDigits u).length hu9
        have hp := pad_eq 9 u (by omega) hup
        have HP := Lib.hid hp
        have HZ := Lib.hid hz
        have hlz : (⟨(Lib.decDigits u).toArray⟩ : ByteArray).size = (Lib.decDigits u).length := size_mk _
        have hli : (i : Int) < (la.length : Int) - 1 := by omega
        clear hp
        generalize Lib.decDigits u = s at *
        gi_wp2_with fail
        refine ⟨trivial, (CallsIn.inRound l (callsIn_wide.2 (writeStr_walk (w.heap.size + 1) (w.heap.size + 1) _ ⟨(List.replicate (9 - s.length) (48 : UInt8)).toArray⟩ _ HC1.out.bld (by rw [Lib.byteCells_length, List.length_append, size_mk, List.length_replicate]; have := HL1.out; have h45 := sg_len true; omega) (by have := HLT.out; omega)))).mono ?_⟩
        rintro e W2 ⟨rfl, hb2, hbel2, hkn2⟩
        have HB2 := Lib.hid (And.intro hb2 (And.intro hbel2 hkn2))
        clear hb2 hbel2 hkn2
        gi_wp2_with fail
        refine ⟨trivial, (CallsIn.inRound l (callsIn_wide.2 (writeStr_walk (w.heap.size + 1) (w.heap.size + 1) _ ⟨s.toArray⟩ _ (.inr HB2.out.1) (by rw [List.length_append, Lib.byteCells_length, Lib.strCells_length, List.length_append, size_mk, size_mk, List.length_replicate]; have := HL1.out; have h45 := sg_len true; omega) (by have := HLT.out; have := HB2.out.2.1.size; omega)))).mono ?_⟩
        rintro e W3 ⟨rfl, hb3, hbel3, hkn3⟩
        have HB3 := Lib.hid (And.intro hb3 (And.intro hbel3 hkn3))
        clear hb3 hbel3 hkn3
        gi_wp2_with fail
        refine cloI_step (x := px) (s := pad 9 u) HC.out (((KeepN.kp HK1.out).trans HB2.out.2.2).trans HB3.out.2.2) (((HK1.out.mono (by have := HC.out.below.size; have := (Array.getElem?_eq_some_iff.1 (isb_block HC.out.bld).choose_spec).1; omega)).trans HB2.out.2.1).trans HB3.out.2.1) hszX hbp' (by rw [HXI.out.1, HXI.out.2, if_pos hlast, Int.toNat_natCast]) (by rw [pad_len]; omega) ?_
        have h1 := HB3.out.1
        rw [Lib.strCells_toArray, Lib.strCells_toArray, List.append_assoc, ← Lib.byteCells_append, ← HP.out, ← Lib.byteCells_append] at h1
        exact .inr h1
      · have hli : ¬ (i : Int) < (la.length : Int) - 1 := by omega
        generalize hgs : Lib.decDigits u = s at *
        have HGS := Lib.hid hgs
        clear hgs
        gi_wp2_with fail
        refine ⟨trivial, (CallsIn.inRound l (callsIn_wide.2 (writeStr_walk (w.heap.size + 1) (w.heap.size + 1) _ ⟨s.toArray⟩ _ HC1.out.bld (by rw [Lib.byteCells_length, List.length_append, size_mk]; have := HL1.out; have h45 := sg_len true; omega) (by have := HLT.out; omega)))).mono ?_⟩
        rintro e W3 ⟨rfl, hb3, hbel3, hkn3⟩
        have HB3 := Lib.hid (And.intro hb3 (And.intro hbel3 hkn3))
        clear hb3 hbel3 hkn3
        gi_wp2_with fail
        refine cloI_step (x := px) (s := s) HC.out ((KeepN.kp HK1.out).trans HB3.out.2.2) ((HK1.out.mono (by have := HC.out.below.size; have := (Array.getElem?_eq_some_iff.1 (isb_block HC.out.bld).choose_spec).1; omega)).trans HB3.out.2.1) hszX hbp' (by rw [HXI.out.1, HXI.out.2, if_neg hlast, Int.toNat_natCast, HGS.out]) (by omega) ?_
        have h1 := HB3.out.1
        rw [Lib.strCells_toArray, ← Lib.byteCells_append] at h1
        exact .inr h1
    case doneT =>
      rintro D xs W hD rfl hI hDf
      have HI := Lib.hid hI
      have HDf := Lib.hid hDf
      clear hI hDf
      gi_wp2_with fail
      have htx := txtF_down PC.out la.length (by omega) (Nat.le_refl _)
      rw [Nat.sub_self, List.drop_zero] at htx
      have hbl := HI.out.bld
      rw [htx] at hbl
      have hdp := dec_pos (pv 1000000000 la).toNat
      have hnl : sg true ++ Lib.decDigits (pv 1000000000 la).toNat ≠ [] := by
        intro e
        have := congrArg List.length e
        rw [List.length_append, List.length_nil] at this
        omega
      have HBL := Lib.hid (And.intro hbl hnl)
      clear htx hbl hdp hnl
      refine ⟨trivial, (callsIn_wide.2 (strg_walk (w.heap.size + 1) (w.heap.size + 1) _ W HBL.out.1 HBL.out.2)).mono ?_⟩
      rintro e W3 ⟨rfl, hb3, hkn⟩
      have hD3 : W3.heap[D]? = some (.deferred (some [])) := hkn D _ HDf.out (by have := hkX.size; omega) (fun cs fr e => by cases e)
      have HB3 := Lib.hid (And.intro hb3 hD3)
      clear hb3 hD3 hkn
      gi_wp2_with fail
      refine ⟨by simp, .inl ⟨_, _, rfl, run_takeDeferred HB3.out.2, ?_⟩⟩
      have hle := hkX.size
      refine ⟨_, results_tmp rfl _ _ _, rfl, ?_⟩
      have h1 : Below w.heap.size w W3 := HI.out.below.trans (HB3.out.1.mono (Nat.le_succ _))
      exact h1.trans ⟨rfl, rfl, rfl, by simp [World.putObj], fun k hk => World.putObj_heap_other (by omega)⟩
    case stopT =>
      rintro D c pre W _ _ h _
      exact h.elim
end Go.Proofs.YtjcfejncjdhplaaGreatDoor
namespace Go.Proofs.YtjcfejncjdhplaaGreatDoor
open Go.RowKit Go Klp
theorem pcs_len9 {l : List Int} (h : Pc 1000000000 l) {k : Nat} (hv : pv 1000000000 l < 10 ^ (9 * k)) : l.length ≤ k := by
  rcases Nat.lt_or_ge k l.length with h' | h'
  · exfalso
    have h1 := h.ge (B := 1000000000) (by omega) (by omega)
    have h2 : (1000000000 : Int) ^ k ≤ 1000000000 ^ (l.length - 1) := ipow_le (by omega) (by omega)
    have h3 : (10 : Int) ^ (9 * k) = 1000000000 ^ k := by rw [Int.pow_mul]; rfl
    rw [h3] at hv
    omega
  · exact h'
theorem divide_any (la lb : List Int) (va vb : Value) (w : World) (hl : la.length ≤ 5000) (hl' : lb.length ≤ 5000) (ha : Sls w .u64 va la) (hb : Sls w .u64 vb lb) (pa : Pc 1000000000 la) (pb : Pc 1000000000 lb) (hp : 0 < pv 1000000000 lb) :
    Calls Tryz.prog 112 #[va, vb] w fun e w' => ∃ q r, e = .returned (.tuple #[q, r]) ∧ Pcs w' .u64 1000000000 q (pv 1000000000 la / pv 1000000000 lb) ∧ Pcs w' .u64 1000000000 r (pv 1000000000 la % pv 1000000000 lb) ∧ Kp w w' := by
  by_cases hle : pv 1000000000 lb ≤ pv 1000000000 la
  · by_cases h2 : 2 ≤ lb.length
    · exact divideG_walk la lb va vb w hl hl' ha hb pa pb h2 hle
    · cases lb with
      | nil => simp [pv] at hp
      | cons d t =>
        have ht : t = [] := List.eq_nil_of_length_eq_zero (by rw [List.length_cons] at h2; omega)
        subst ht
        rw [pv_one] at hp ⊢
        exact divide_one la va vb d w (by omega) ha hb pa hp (pb.1 d (by simp)).2
  · exact divide_less la lb va vb w (by omega) (by omega) ha hb pa pb (by omega)
set_option maxHeartbeats 400000 in
theorem iquick_long (l : List UInt8) (w : World) (hl : ¬ l.length ≤ 18) :
    Calls Tryz.prog 109 #[.string ⟨l.toArray⟩, .int .i64 18] w fun e w' => e = .returned (.tuple #[.int .i64 0, .bool false]) ∧ Kp w w' := by
  have h18 : (18 : Int) < (l.length : Int) := by omega
  clear hl
  go_enter Tryz.func109, Tryz.ntmps109
  go_wp2_with fail
  go_ret2
  exact ⟨rfl, Kp.refl _⟩
set_option maxHeartbeats 400000 in
theorem close_zero (ao : Option Addr) (cap : Nat) (m : Bool) (w : World) :
    Calls Tryz.prog 113 #[.agg #[.bool m, .slice ao 0 cap]] w fun e w' => e = .returned (.string ⟨(Lib.itoa 0).toArray⟩) ∧ Kp w w' := by
  go_enter Tryz.func113, Tryz.ntmps113
  go_wp2_with fail
  go_ret
  refine ⟨by rw [itoa_zero]; rfl, kp_alloc _ _⟩
theorem close_walk {v : Value} {n : Int} (m : Bool) (w : World) (hb : n < 10 ^ (9 * 300)) (h : Pcs w .u64 1000000000 v n) (ht : PTab w) :
    Calls Tryz.prog 113 #[.agg #[.bool m, v]] w fun e w' => e = .returned (.string ⟨(Lib.itoa (if m = true then -n else n)).toArray⟩) ∧ Kp w w' := by
  obtain ⟨l, hs, hc, hv⟩ := h
  by_cases h0 : l.length = 0
  · obtain rfl := List.eq_nil_of_length_eq_zero h0
    obtain ⟨ao, cap, rfl, _⟩ := hs.val
    have hn : n = 0 := by rw [← hv]; rfl
    rw [hn, show (if m = true then -(0 : Int) else 0) = 0 from by split <;> rfl]
    exact close_zero ao cap m w
  · have hl := pcs_len9 hc (k := 300) (by rw [hv]; exact hb)
    have hpos : 0 < n := by
      have h1 := hc.ge (B := 1000000000) (by omega) (by omega)
      have h2 := ipow_pos (B := 1000000000) (by omega) (l.length - 1)
      omega
    refine (callsIn_wide.1 (close_in l v m w hl hs hc (by omega) ht)).mono fun e w' ⟨h1, h2⟩ => ⟨?_, h2⟩
    rw [h1, hv]
    congr 4
    cases m
    · rw [if_neg (by simp), itoa_nat _ (by omega)]; rfl
    · rw [if_pos rfl, itoa_neg' (by omega), show (-n).natAbs = n.toNat from by omega]; rfl
theorem itoa_small {n : Int} (h : (Lib.itoa n).length ≤ 18) : (n.natAbs : Int) < 1000000000000000000 := by
  have h1 : (Lib.decDigits n.natAbs).length ≤ 18 := by rw [itoa_eq, List.length_append] at h; omega
  have h2 := bg_lt h1
  have h3 : (10 : Int) ^ 18 = 1000000000000000000 := by decide
  omega
theorem gcd_emod (x y : Int) (hx : 0 ≤ x) : Int.gcd y (x % y) = Int.gcd x y := by
  have h := gcd_step x y
  rw [← Int.tmod_eq_emod_of_nonneg hx]
  omega
theorem number_field (m : Bool) (a : Option Addr) (n k : Nat) (w : World) : (Instr.field 192 (.agg #[.bool m, .slice a n k]) 1).run Tryz.prog w = .ok (.slice a n k) w := by kernel_rfl
def GcdI (W : World) (g : Int) (x y : Value) (wr : World) : Prop := ∃ (X Y : Int), 0 ≤ X ∧ 0 ≤ Y ∧ X < 10 ^ (9 * 100) ∧ Y < 10 ^ (9 * 100) ∧ (Int.gcd X Y : Int) = g ∧ Pcs wr .u64 1000000000 x X ∧ Pcs wr .u64 1000000000 y Y ∧ Kp W wr
noncomputable def mesI (wr : World) (y : Value) : Nat := (pv 1000000000 (rdS wr y)).toNat
theorem p9_le : (10 : Int) ^ (9 * 100) ≤ 10 ^ (9 * 300) := ipow_le (by omega) (by omega)
set_option maxRecDepth 100000 in
set_option maxHeartbeats 4000000 in
theorem igcdB {n d : Int} (hn : Bg n) (hd : Bg d) (w : World) (ht : PTab w) :
    Calls Tryz.prog 63 #[.string ⟨(Lib.itoa n).toArray⟩, .string ⟨(Lib.itoa d).toArray⟩] w fun e w' => e = .returned (.string ⟨(Lib.itoa (Int.gcd n d : Int)).toArray⟩) ∧ Kp w w' := by
  by_cases hsh : (Lib.itoa n).length ≤ 18 ∧ (Lib.itoa d).length ≤ 18
  · have b1 : -9223372036854775807 ≤ n ∧ n ≤ 9223372036854775807 := by
      have h1 := itoa_small hsh.1
      omega
    have b2 : -9223372036854775807 ≤ d ∧ d ≤ 9223372036854775807 := by
      have h1 := itoa_small hsh.2
      omega
    exact gcd_walk _ _ n d _ w (fun w => iquick_walk _ n w hsh.1 (atoi_itoa n)) (fun w => iquick_walk _ d w hsh.2 (atoi_itoa d)) b1.1 b1.2 b2.1 b2.2 rfl ht
  · have HN := Lib.hid (bg_lt (k := 9 * 100) hn)
    have HD := Lib.hid (bg_lt (k := 9 * 100) hd)
    have HON := Lib.hid fun w => open_walk hn w
    have HOD := Lib.hid fun w => open_walk hd w
    have HT := Lib.hid ht
    have hfd := number_field
    have hq : (∀ w, Calls Tryz.prog 109 #[.string ⟨(Lib.itoa n).toArray⟩, .int .i64 18] w fun e w' => e = .returned (.tuple #[.int .i64 0, .bool false]) ∧ Kp w w') ∨
        ((∀ w, Calls Tryz.prog 109 #[.string ⟨(Lib.itoa n).toArray⟩, .int .i64 18] w fun e w' => e = .returned (.tuple #[.int .i64 n, .bool true]) ∧ Kp w w') ∧
         (∀ w, Calls Tryz.prog 109 #[.string ⟨(Lib.itoa d).toArray⟩, .int .i64 18] w fun e w' => e = .returned (.tuple #[.int .i64 0, .bool false]) ∧ Kp w w')) := by
      by_cases h1 : (Lib.itoa n).length ≤ 18
      · exact .inr ⟨fun w => iquick_walk _ n w h1 (atoi_itoa n), fun w => iquick_long _ w (fun h2 => hsh ⟨h1, h2⟩)⟩
      · exact .inl fun w => iquick_long _ w h1
    clear hsh hn hd ht
    rcases hq with hq | ⟨hq, hq2⟩
    all_goals
      have HQ := Lib.hid hq
      clear hq
      go_enter Tryz.func63, Tryz.ntmps63
      go_wp2_with fail
      refine (HQ.out _).mono ?_
      rintro e w1 ⟨rfl, hk1⟩
      have HK1 := Lib.hid hk1
      clear hk1
      go_wp2_with fail
      try
        refine (hq2 _).mono ?_
        clear hq2
        rintro e w1 ⟨rfl, hk1⟩
        replace HK1 := Lib.hid (HK1.out.then hk1)
        clear hk1
        go_wp2_with fail
      refine (HON.out _).mono ?_
      rintro e w2 ⟨x0, rfl, hp2, hk2⟩
      have HP2 := Lib.hid hp2
      have HK2 := Lib.hid (HK1.out.then hk2)
      obtain ⟨l0, s0, -⟩ := hp2
      obtain ⟨a0, k0, rfl, -⟩ := s0.val
      clear hk2 s0
      go_wp2_with fail
      refine (HOD.out _).mono ?_
      rintro e w3 ⟨y0, rfl, hp3, hk3⟩
      have HI := Lib.hid (show GcdI w (Int.gcd n d) _ _ w3 from ⟨n.natAbs, d.natAbs, by omega, by omega, HN.out, HD.out, by unfold Int.gcd; simp, HP2.out.kp hk3, hp3, HK2.out.then hk3⟩)
      obtain ⟨l1, s1, -⟩ := hp3
      obtain ⟨a1, k1, rfl, -⟩ := s1.val
      clear hk3 s1 HN HD
      go_wp2_with fail
      go_loopw [9, 10] (fun x y wr => GcdI w (Int.gcd n d) x y wr) (fun _ y wr => mesI wr y)
      case atStart => exact HI.out
      case round =>
        obtain ⟨X, Y, hX0, hY0, hXb, hYb, hg, ⟨lx, sx, cx, vx⟩, ⟨ly, sy, cy, vy⟩, hk⟩ := hrel
        obtain ⟨ax, kx, rfl, -⟩ := sx.val
        obtain ⟨ay, ky, rfl, -⟩ := sy.val
        have hlx := pcs_len9 cx (k := 100) (by rw [vx]; exact hXb)
        have hly := pcs_len9 cy (k := 100) (by rw [vy]; exact hYb)
        have HX := Lib.hid (And.intro sx (And.intro cx vx))
        have HY := Lib.hid (And.intro sy (And.intro cy vy))
        have HG := Lib.hid (And.intro hg (And.intro hXb hYb))
        have HK := Lib.hid hk
        clear sx cx vx sy cy vy hg hk hXb hYb
        by_cases hy : ly.length = 0
        · have hY : Y = 0 := by
            have h1 := HY.out.2.2
            rw [List.eq_nil_of_length_eq_zero hy] at h1
            rw [← h1]
            rfl
          have hgx : X = Int.gcd n d := by have := HG.out.1; rw [hY, Int.gcd_zero_right] at this; omega
          have HGX := Lib.hid hgx
          rw [hy]
          clear hgx hY hy
          go_wp2_with fail
          refine (close_walk false _ (Int.lt_of_lt_of_le HG.out.2.1 p9_le) ⟨lx, HX.out.1, HX.out.2.1, HX.out.2.2⟩ (HT.out.kp HK.out)).mono ?_
          rintro e w4 ⟨rfl, hk4⟩
          have HK4 := Lib.hid (HK.out.then hk4)
          clear hk4
          rw [if_neg (by simp), HGX.out]
          go_wp2_with fail
          go_ret
          exact ⟨rfl, HK4.out⟩
        · have hYp : 0 < Y := by
            have h1 := HY.out.2.1.ge (B := 1000000000) (by omega) (by omega)
            have h2 := ipow_pos (B := 1000000000) (by omega) (ly.length - 1)
            rw [HY.out.2.2] at h1
            omega
          have HYP := Lib.hid (And.intro hYp (And.intro hX0 hY0))
          have hlp : (0 : Int) < (ly.length : Int) := by omega
          clear hYp hX0 hY0 hy
          go_wp2_with fail
          have hYp := HYP.out.1
          have hX0 := HYP.out.2.1
          have hY0 := HYP.out.2.2
          refine (divide_any lx ly _ _ _ (by omega) (by omega) HX.out.1 HY.out.1 HX.out.2.1 HY.out.2.1 (by rw [HY.out.2.2]; exact hYp)).mono ?_
          rintro e w4 ⟨vq, vr, rfl, _, hr4, hk4⟩
          rw [HX.out.2.2, HY.out.2.2] at hr4
          have HR4 := Lib.hid hr4
          have HK4 := Lib.hid hk4
          clear hr4 hk4 hYp hX0 hY0
          go_wp2_with fail
          have hYp := HYP.out.1
          have hX0 := HYP.out.2.1
          have hY0 := HYP.out.2.2
          go_roundw
          case rel =>
            have m1 := Int.emod_nonneg X (show Y ≠ 0 by omega)
            have m2 := Int.emod_lt_of_pos X hYp
            exact ⟨Y, X % Y, hY0, m1, HG.out.2.2, Int.lt_trans m2 HG.out.2.2, by rw [gcd_emod X Y hX0]; exact HG.out.1, ⟨ly, HY.out.1.kp HK4.out, HY.out.2.1, HY.out.2.2⟩, HR4.out, HK.out.then HK4.out⟩
          case measure =>
            have m1 := Int.emod_nonneg X (show Y ≠ 0 by omega)
            have m2 := Int.emod_lt_of_pos X hYp
            obtain ⟨lr, sr, cr, hvr⟩ := HR4.out
            show (pv 1000000000 (rdS _ _)).toNat < (pv 1000000000 (rdS _ _)).toNat
            rw [sr.rd, HY.out.1.rd, hvr, HY.out.2.2]
            omega
end Go.Proofs.YtjcfejncjdhplaaGreatDoor
