/-
  strings.Split at a blank: the words.
-/
import Derived.Test.YtjcfejncjdhplaaGreatDoorWkQuick
import Derived.Lib.Split
import Derived.Test.YtjcfejncjdhplaaGreatDoorNamW
import Derived.Test.YtjcfejncjdhplaaGreatDoorShelf
import Derived.Lib.IndexLaws
set_option linter.unusedSectionVars false
set_option linter.unusedVariables false
set_option linter.unusedSimpArgs false
namespace Klp
open Go Go.Lib
def spl : List UInt8 → List (List UInt8)
  | [] => [[]]
  | c :: l => if c = 32 then [] :: spl l else ((c :: (spl l).headD []) :: (spl l).tail)
theorem spl_ne (l : List UInt8) : spl l ≠ [] := by
  cases l with
  | nil => simp [spl]
  | cons c l => rw [spl]; split <;> simp
theorem spl_eq (l : List UInt8) : spl l = (spl l).headD [] :: (spl l).tail := by
  cases h : spl l with
  | nil => exact absurd h (spl_ne l)
  | cons w ws => rfl
theorem spl_word {a : List UInt8} (h : ∀ c ∈ a, c ≠ 32) : spl a = [a] := by
  induction a with
  | nil => rfl
  | cons c a ih => rw [spl, if_neg (h c (by simp)), ih fun x hx => h x (by simp [hx])]; rfl
theorem spl_cons {a : List UInt8} (h : ∀ c ∈ a, c ≠ 32) (r : List UInt8) : spl (a ++ 32 :: r) = a :: spl r := by
  induction a with
  | nil => simp [spl]
  | cons c a ih => rw [List.cons_append, spl, if_neg (h c (by simp)), ih fun x hx => h x (by simp [hx])]; rfl
theorem spl_blank (l : List UInt8) : spl (l ++ [32]) = spl l ++ [[]] := by
  induction l with
  | nil => simp [spl]
  | cons c l ih =>
    rw [List.cons_append, spl, spl, ih]
    split
    · rfl
    · rw [spl_eq l]; rfl
theorem spl_byte (l : List UInt8) {c : UInt8} (hc : c ≠ 32) : spl (l ++ [c]) = (spl l).dropLast ++ [(spl l).getLastD [] ++ [c]] := by
  induction l with
  | nil => simp [spl, hc]
  | cons d l ih =>
    rw [List.cons_append, spl, spl, ih]
    cases h : spl l with
    | nil => exact absurd h (spl_ne l)
    | cons w ws =>
      cases ws with
      | nil => split <;> simp
      | cons v vs => split <;> simp
theorem spl_len (l : List UInt8) : (spl l).length ≤ l.length + 1 := by
  induction l with
  | nil => simp [spl]
  | cons c l ih =>
    rw [spl]
    have := spl_ne l
    split
    · simp; omega
    · simp
      have : 0 < (spl l).length := List.length_pos_iff.2 this
      omega
def jn : List (List UInt8) → List UInt8
  | [] => []
  | [w] => w
  | w :: v :: ws => w ++ 32 :: jn (v :: ws)
theorem spl_jn {l : List (List UInt8)} (hl : l ≠ []) (h : ∀ w ∈ l, ∀ c ∈ w, c ≠ 32) : spl (jn l) = l := by
  induction l with
  | nil => exact absurd rfl hl
  | cons w ws ih =>
    cases ws with
    | nil => exact spl_word (h w (by simp))
    | cons v vs =>
      rw [jn, spl_cons (h w (by simp)), ih (by simp) fun x hx => h x (List.mem_cons_of_mem _ hx)]
def fit (N : UInt8) : List (List UInt8) → List (List UInt8) → List (List UInt8) → List (List UInt8) → Option (List (List UInt8) × List (List UInt8))
  | [], [], u, n => some (u, n)
  | f :: F, w :: W, u, n => if w = [] then none else if f = [85] then fit N F W (u ++ [w]) n else if f = [N] then fit N F W u (n ++ [w]) else if f = w then fit N F W u n else none
  | _, _, _, _ => none
end Klp
namespace Go.Proofs.YtjcfejncjdhplaaGreatDoor
open Go.RowKit Go Klp
abbrev sv (l : List UInt8) : Value := .string ⟨l.toArray⟩
def Sts (w : World) (v : Value) (l : List (List UInt8)) : Prop :=
  ∃ (ao : Option Addr) (cap : Nat), v = .slice ao l.length cap ∧ l.length ≤ cap ∧ (ao = none → cap = 0) ∧ (0 < l.length → ∃ b o, ao = some ⟨b, o, none⟩ ∧ ∀ i (h : i < l.length), w.cell? ⟨b, o + i, none⟩ = some (sv l[i]))
theorem Sts.kp {w w' : World} {v : Value} {l : List (List UInt8)} (h : Sts w v l) (hk : Kp w w') : Sts w' v l := by
  obtain ⟨ao, cap, rfl, hc, hn, hx⟩ := h
  refine ⟨ao, cap, rfl, hc, hn, fun hl => ?_⟩
  obtain ⟨b, o, rfl, hcell⟩ := hx hl
  refine ⟨b, o, rfl, fun i hi => ?_⟩
  have h0 := hcell i hi
  exact (Below.cell hk (p := ⟨b, o + i, Option.none⟩) (World.block_lt_of_cell? w _ h0)).trans h0
theorem Sts.nil (w : World) : Sts w (.slice none 0 0) [] := ⟨none, 0, rfl, Nat.le_refl _, fun _ => rfl, fun h => absurd h (by simp)⟩
theorem Sts.ownV {w : World} {base e n : Nat} {v : Value} {l : List (List UInt8)} (h : w.ownsRow base e 1 v n (l.map sv)) : Sts w v l := by
  have hl : l.length = n := by have := h.1; simpa using this
  rcases h.2 with ⟨h', h0⟩ | ⟨g, cap, cur, h', hb, hg, hn, hr⟩
  · have : l = [] := List.eq_nil_of_length_eq_zero (by omega)
    subst h' this
    exact Sts.nil _
  · subst h'
    subst hl
    refine ⟨_, cap, rfl, hn, (fun e => by cases e), fun _ => ⟨g, 0, rfl, fun i hi => ?_⟩⟩
    rw [Nat.zero_add, h.cellAt i (by omega), List.getElem?_map, List.getElem?_eq_getElem hi]
    rfl
theorem Sts.val {w : World} {v : Value} {l : List (List UInt8)} (h : Sts w v l) : ∃ ao cap, v = .slice ao l.length cap ∧ l.length ≤ cap := by
  obtain ⟨ao, cap, e, hc, _⟩ := h
  exact ⟨ao, cap, e, hc⟩
theorem Sts.addr {w : World} {ao : Option Addr} {n cap : Nat} {l : List (List UInt8)} (h : Sts w (.slice ao n cap) l) (hl : 0 < l.length) : ∃ b o, ao = some ⟨b, o, none⟩ := by
  obtain ⟨ao', cap', e, hc, _, hx⟩ := h
  cases e
  obtain ⟨b, o, e, _⟩ := hx hl
  exact ⟨b, o, e⟩
theorem Sts.cells {w w' : World} {b o n cap : Nat} {l : List (List UInt8)} (h : Sts w (.slice (some ⟨b, o, none⟩) n cap) l) (hk : Kp w w') {i : Nat} (hi : i < l.length) : w'.cell? ⟨b, o + i, none⟩ = some (sv l[i]) := by
  obtain ⟨ao, cap', e, hc, _, hx⟩ := h.kp hk
  cases e
  obtain ⟨b', o', e', hcell⟩ := hx (by omega)
  cases e'
  exact hcell i hi
def RowT (w : World) (g : Nat) (o : List (List UInt8)) : Prop := w.heap[g]? = some (.cells (o.map sv).toArray 9 (0, 0))
theorem RowT.cell {w : World} {g : Nat} {o : List (List UInt8)} (h : RowT w g o) {j : Nat} (hj : j < o.length) : w.cell? ⟨g, j, none⟩ = some (sv o[j]) := by
  unfold World.cell?
  simp only [show w.heap[g]? = _ from h]
  rw [← Array.getElem?_toList, List.getElem?_map, List.getElem?_eq_getElem hj]
  rfl
theorem RowT.frozen {w : World} {g : Nat} {o : List (List UInt8)} (h : RowT w g o) (j : Nat) : w.frozen? ⟨g, j, none⟩ = false := by
  unfold World.frozen?
  simp only [show w.heap[g]? = _ from h]
  rfl
theorem RowT.lt {w : World} {g : Nat} {o : List (List UInt8)} (h : RowT w g o) : g < w.heap.size := (Array.getElem?_eq_some_iff.1 h).1
theorem RowT.kp {w w' : World} {g : Nat} {o : List (List UInt8)} (h : RowT w g o) (hk : Kp w w') : RowT w' g o := (hk.block _ h.lt).trans h
theorem RowT.store {w : World} {g : Nat} {o : List (List UInt8)} (h : RowT w g o) (j : Nat) (z : List UInt8) : RowT (w.setCell ⟨g, j, none⟩ (sv z)) g (o.set j z) := by
  unfold RowT World.setCell
  simp only [Array.getElem?_modify, if_true, show w.heap[g]? = _ from h, Option.map_some]
  congr 1
  rw [List.map_set, ← List.setIfInBounds_toArray]
  rfl
theorem RowT.zeros (w : World) (N : Nat) : RowT (w.alloc (.cells (madeCells #[Value.string ByteArray.empty] N) 9)) w.heap.size (List.replicate N []) := by
  unfold RowT
  rw [heap_alloc_new, List.map_replicate, ← toList_madeCells_one]
  rfl
theorem RowT.sts {w : World} {g : Nat} {o : List (List UInt8)} (h : RowT w g o) {cap : Nat} (hc : o.length ≤ cap) : Sts w (.slice (some ⟨g, 0, none⟩) o.length cap) o :=
  ⟨_, cap, rfl, hc, (fun e => by cases e), fun _ => ⟨g, 0, rfl, fun i hi => by rw [Nat.zero_add]; exact h.cell hi⟩⟩
end Go.Proofs.YtjcfejncjdhplaaGreatDoor
namespace Go.Proofs.YtjcfejncjdhplaaGreatDoor
open Go.RowKit Go Klp
theorem infoT : (Tryz.prog.info? 9).map (fun i => (i.zero, i.size, i.bytes)) = some (some (.string ByteArray.empty), 1, 16) := by kernel_rfl
def blanks (l : List UInt8) : Nat := l.countP (· == 32)
theorem spl_blanks : ∀ l : List UInt8, (spl l).length = blanks l + 1
  | [] => rfl
  | c :: l => by
    have ih := spl_blanks l
    rw [spl]
    by_cases h : c = 32
    · subst h
      rw [if_pos rfl, List.length_cons, ih]
      simp [blanks]
    · rw [if_neg h, List.length_cons]
      have : 0 < (spl l).length := List.length_pos_iff.2 (spl_ne l)
      have hb : blanks (c :: l) = blanks l := by simp [blanks, h]
      rw [hb]
      simp
      omega
theorem blanks_le (l : List UInt8) : blanks l ≤ l.length := List.countP_le_length
theorem blank_at {l : List UInt8} (h : 0 < blanks l) : ∃ k : Nat, Lib.indexByte l 32 = (k : Int) ∧ k < l.length ∧ spl l = l.take k :: spl (l.drop (k + 1)) ∧ blanks l = blanks (l.drop (k + 1)) + 1 := by
  have h0 : Lib.indexByte l 32 ≠ -1 := fun e => by
    obtain ⟨c, hc, hp⟩ := List.countP_pos_iff.1 h
    obtain ⟨k, hk⟩ := List.getElem?_of_mem hc
    have hc2 : c = 32 := by simpa using hp
    exact Lib.indexByte_none e k (by rw [hk, hc2])
  have h1 := Lib.indexByte_ge l 32
  obtain ⟨k, hk⟩ : ∃ k : Nat, Lib.indexByte l 32 = (k : Int) := ⟨(Lib.indexByte l 32).toNat, by omega⟩
  obtain ⟨h2, h3⟩ := Lib.indexByte_some hk
  obtain ⟨hl, hx⟩ := List.getElem?_eq_some_iff.1 h2
  have hno : ∀ c ∈ l.take k, c ≠ 32 := fun c hc => by
    obtain ⟨j, hj, rfl⟩ := List.getElem_of_mem hc
    rw [List.length_take] at hj
    rw [List.getElem_take]
    intro e
    exact h3 j (by omega) (by rw [List.getElem?_eq_getElem (by omega), e])
  have e : l = l.take k ++ 32 :: l.drop (k + 1) := by conv => lhs; rw [part_at l k hl, hx]
  have hs : spl l = l.take k :: spl (l.drop (k + 1)) := by
    conv => lhs; rw [e]
    exact spl_cons hno _
  refine ⟨k, hk, hl, hs, ?_⟩
  have h4 := spl_blanks l
  have h5 := spl_blanks (l.drop (k + 1))
  rw [hs, List.length_cons] at h4
  omega
theorem count_blanks (l : List UInt8) : (Lib.countByte l 32 : Int) = (blanks l : Int) := rfl
theorem spl_none {l : List UInt8} (h : blanks l = 0) : spl l = [l] := by
  refine spl_word fun c hc e => ?_
  subst e
  have : 0 < blanks l := List.countP_pos_iff.2 ⟨32, hc, by simp⟩
  omega
structure SplI (w0 : World) (g N : Nat) (l0 rest : List UInt8) (i : Nat) (W : World) : Prop where
  below : Below w0.heap.size w0 W
  ex : ∃ o : List (List UInt8), RowT W g o ∧ o.length = N ∧ spl l0 = o.take i ++ spl rest
  cnt : blanks rest + i + 1 = N
set_option maxRecDepth 100000 in
set_option maxHeartbeats 4000000 in
theorem genSplit_walk (l : List UInt8) (hl : l.length ≤ 100000) (w : World) : Calls Tryz.prog 40 #[sv l, .string ⟨#[32]⟩, .int .i64 0, .int .i64 (-1)] w fun e w' => e = .returned (.slice (some ⟨w.heap.size, 0, none⟩) (spl l).length (spl l).length) ∧ RowT w' w.heap.size (spl l) ∧ Kp w w' := by
  have hbl := blanks_le l
  have hsb := spl_blanks l
  have hcb := count_blanks l
  have HCB := Lib.hid (And.intro hcb hsb)
  have hmk := run_make_row' (P := Tryz.prog) 23 9 (.string ByteArray.empty) 16 Tryz.underlying23 infoT rfl .i64 .i64 (blanks l + 1) (by omega) (by omega)
  have hmin : min ((blanks l : Int) + 1) ((l.length : Int) + 1) = ((blanks l + 1 : Nat) : Int) := by omega
  rw [show ((blanks l + 1 : Nat) : Int) = (blanks l : Int) + 1 from by omega] at hmk hmin
  clear hcb hsb
  go_enter Tryz.func40, Tryz.ntmps40
  go_wp2_with fail
  refine (Tryz.strings_Count_one ⟨l.toArray⟩ 32 _).mono ?_
  rintro e w' ⟨rfl, hw⟩
  subst hw
  have e0 : Lib.countByte (⟨l.toArray⟩ : ByteArray).data.toList 32 = (blanks l : Int) := HCB.out.1
  rw [e0]
  clear e0
  go_wp2_with fail
  have hR : RowT (w'.alloc (.cells (madeCells #[Value.string ByteArray.empty] (blanks l + 1)) 9)) w'.heap.size (List.replicate (blanks l + 1) []) := RowT.zeros w' _
  have hI : SplI w' w'.heap.size (blanks l + 1) l l 0 (w'.alloc (.cells (madeCells #[Value.string ByteArray.empty] (blanks l + 1)) 9)) := ⟨kp_alloc _ _, ⟨_, hR, List.length_replicate, by simp⟩, by omega⟩
  have HI := Lib.hid hI
  clear hR hI hmk hmin
  go_loopw [0, 10] (fun ss si wr => ∃ (i : Nat) (rest : List UInt8), ss = sv rest ∧ si = .int .i64 i ∧ rest.length ≤ l.length ∧ SplI w' w'.heap.size (blanks l + 1) l rest i wr) (fun _ si _ => 100001 - (intOf si).toNat)
  case atStart => exact ⟨0, l, rfl, rfl, Nat.le_refl _, HI.out⟩
  case round =>
    obtain ⟨i, rest, rfl, rfl, hrl, hI⟩ := hrel
    have hcn := hI.cnt
    obtain ⟨o, hrow, hol, hsp⟩ := hI.ex
    have HR := Lib.hid (And.intro hrow (And.intro hol hsp))
    have HBel := Lib.hid hI.below
    clear hI hrow hol hsp
    have hio : i < o.length := by rw [HR.out.2.1]; omega
    have g1 := HR.out.1.cell hio
    have g2 := HR.out.1.frozen i
    by_cases hlt : i < blanks l
    · obtain ⟨k, hk, hkl, hs, hb⟩ := blank_at (l := rest) (by omega)
      have hex1 : (⟨rest.toArray⟩ : ByteArray).extract 0 k = ⟨(rest.take k).toArray⟩ := by apply ByteArray.ext; simp [ByteArray.data_extract]
      have hex2 : (⟨rest.toArray⟩ : ByteArray).extract (k + 1) rest.length = ⟨(rest.drop (k + 1)).toArray⟩ := by apply ByteArray.ext; simp [ByteArray.data_extract]; exact List.take_of_length_le (by simp)
      have hsz : (⟨rest.toArray⟩ : ByteArray).size = rest.length := size_mk rest
      have HK := Lib.hid (And.intro hk (And.intro hs hb))
      clear hk hs hb
      go_wp2_with fail
      refine (Tryz.strings_Index_one ⟨rest.toArray⟩ 32 _).mono ?_
      rintro e w2 ⟨rfl, hw⟩
      subst hw
      have e0 : Lib.indexByte (⟨rest.toArray⟩ : ByteArray).data.toList 32 = (k : Int) := HK.out.1
      rw [e0]
      clear e0
      go_wp2_with fail
      go_roundw
      case rel =>
        refine ⟨i + 1, rest.drop (k + 1), rfl, by go_num, by rw [List.length_drop]; omega, HBel.out.setCell (p := ⟨w'.heap.size, i, none⟩) (Nat.le_refl _) _, ⟨o.set i (rest.take k), HR.out.1.store i _, by rw [List.length_set]; exact HR.out.2.1, ?_⟩, by have := HK.out.2.2; omega⟩
        rw [HR.out.2.2, HK.out.2.1, take_snoc _ i (by rw [List.length_set]; exact hio), List.getElem_set_self, List.take_set_of_le (Nat.le_refl i), List.append_assoc]
        rfl
      case measure => simp only [intOf]; omega
    · have hb0 : blanks rest = 0 := by omega
      have hib : i = blanks l := by omega
      have HIB := Lib.hid (And.intro hib hb0)
      have hi2 : ¬ (i : Int) < (blanks l : Int) := by omega
      have hb3 : (i : Int) + 1 ≤ (blanks l : Int) + 1 := by omega
      clear hib hb0 hcn hlt
      go_wp2_with fail
      go_ret
      have h1 := HIB.out.1
      have e : o.set i rest = spl l := by
        rw [HR.out.2.2, spl_none HIB.out.2, List.set_eq_take_append_cons_drop, if_pos hio, List.drop_eq_nil_of_le (by rw [HR.out.2.1]; omega)]
      refine ⟨?_, ?_, HBel.out.setCell (p := ⟨w'.heap.size, i, none⟩) (Nat.le_refl _) _⟩
      · rw [HCB.out.2, ← h1]; rfl
      · have := HR.out.1.store i rest
        rw [e] at this
        exact this
theorem split_walk (l : List UInt8) (hl : l.length ≤ 100000) (w : World) : Calls Tryz.prog 18 #[sv l, .string ⟨#[32]⟩] w fun e w' => e = .returned (.slice (some ⟨w.heap.size, 0, none⟩) (spl l).length (spl l).length) ∧ RowT w' w.heap.size (spl l) ∧ Kp w w' := by
  go_enter Tryz.func18, Tryz.ntmps18
  go_wp2_with fail
  refine (genSplit_walk l hl _).mono ?_
  rintro e w1 ⟨rfl, hr, hk⟩
  have HR := Lib.hid (And.intro hr hk)
  clear hr hk
  go_wp2_with fail
  go_ret
  exact ⟨rfl, HR.out.1, HR.out.2⟩
end Go.Proofs.YtjcfejncjdhplaaGreatDoor
