/-
  klippelaw32.SliceChecks: the walk from its entry through the change of the history, whatever the parts leave.
-/
import Derived.Test.YtdkafeammgaknaaGreatDoorEvMemo
import Derived.WalkKit
import Derived.Lib.Hide
import Derived.Test.YtdkafeammgaknaaGreatDoorProg
import Derived.WalkSpells
import Derived.WalkLawsBesides
import Derived.RegionTactic
import Derived.Deep.RegionHeld3
set_option linter.unusedSectionVars false
set_option linter.unusedVariables false
set_option linter.unusedSimpArgs false
namespace Go.Proofs.YtdkafeammgaknaaGreatDoor
open Go.RowKit Go Ev
theorem heap_alloc (w : World) (o : Obj) : (w.alloc o).heap = w.heap.push o := rfl
theorem on_alloc {M : Mem} {w : World} (h : M.On w) (o : Obj) : M.On (w.alloc o) := by
 refine ⟨?_,fun b hb hz => ?_⟩
 ·rw [heap_alloc,Array.size_push]; exact Nat.le_succ_of_le h.size
 ·have : b < w.heap.size := Nat.lt_of_lt_of_le hb h.size
  rw [← h.same b hb hz]
  rw [heap_alloc,Array.getElem?_push,if_neg (Nat.ne_of_lt this)]
def QuietP (v : Value) (w : World) (e : Ending) (w' : World) : Prop := e = .returned v ∧ Grew w w' ∧ ∀ b,b < w.heap.size → w'.heap[b]? = w.heap[b]?
theorem grew_alloc (w : World) (o : Obj) : Grew w (w.alloc o) := ⟨rfl,rfl,rfl,by rw [heap_alloc,Array.size_push]; omega⟩
theorem same_alloc (w : World) (o : Obj) : ∀ b,b < w.heap.size → (w.alloc o).heap[b]? = w.heap[b]? := fun b hb => by rw [heap_alloc,Array.getElem?_push,if_neg (Nat.ne_of_lt hb)]
theorem new_alloc (w : World) (o : Obj) : (w.alloc o).heap[w.heap.size]? = some o := by rw [heap_alloc,Array.getElem?_push,if_pos rfl]
theorem size_alloc (w : World) (o : Obj) : (w.alloc o).heap.size = w.heap.size + 1 := by rw [heap_alloc,Array.size_push]
theorem set_other (w : World) (a : Addr) (v : Value) (b : Nat) (h : b ≠ a.block) : (w.setCell a v).heap[b]? = w.heap[b]? := by
 unfold World.setCell
 simp only [Array.getElem?_modify]
 rw [if_neg (Ne.symm h)]
theorem set_far (w : World) (p off : Nat) (v : Value) (b : Nat) (h : b ≠ p) : (w.setCell ⟨p,off,none⟩ v).heap[b]? = w.heap[b]? := set_other w _ v b h
theorem set_size (w : World) (a : Addr) (v : Value) : (w.setCell a v).heap.size = w.heap.size := by
 unfold World.setCell
 simp
theorem setc_same (w : World) (b off : Nat) (v : Value) {cs : Array Value} {t : Nat} {fr : Nat × Nat} (h : w.heap[b]? = some (.cells cs t fr)) : (w.setCell ⟨b,off,none⟩ v).heap[b]? = some (.cells (cs.setIfInBounds off v) t fr) := by
 unfold World.setCell
 simp only [Array.getElem?_modify]
 rw [if_pos trivial,h]
 rfl
theorem grew_set (w : World) (a : Addr) (v : Value) : Grew w (w.setCell a v) := ⟨rfl,rfl,rfl,Nat.le_of_eq (set_size w a v).symm⟩
structure Went (M : Mem) (w : World) (M1 : Mem) (w1 : World) : Prop where
 on : M1.On w1
 le : M.Le M1
 grew : Grew w w1
 old : ∀ b,b < w.heap.size → w1.heap[b]? = w.heap[b]?
 frz : ∀ b,b < M1.heap.size → M1.frz b → (b < M.heap.size ∧ M.frz b) ∨ w.heap.size ≤ b
theorem grew_refl (w : World) : Grew w w := ⟨rfl,rfl,rfl,Nat.le_refl _⟩
theorem Went.refl {M : Mem} {w : World} (h : M.On w) : Went M w M w := ⟨h,Mem.Le.refl _,grew_refl w,fun _ _ => rfl,fun b hb hz => .inl ⟨hb,hz⟩⟩
theorem Went.lt {M M1 : Mem} {w w1 : World} (h : Went M w M1 w1) : w.heap.size ≤ w1.heap.size := h.grew.size
theorem Went.alloc {M M1 : Mem} {w w1 : World} (h : Went M w M1 w1) (o : Obj) : Went M w M1 (w1.alloc o) :=
 ⟨on_alloc h.on o,h.le,h.grew.trans (grew_alloc _ _),fun b hb => by rw [same_alloc _ _ b (Nat.lt_of_lt_of_le hb h.lt),h.old b hb],h.frz⟩
theorem Went.drew {M M1 : Mem} {w w1 : World} (h : Went M w M1 w1) : Went M w M1 w1.drew := ⟨⟨h.on.size,h.on.same⟩,h.le,⟨h.grew.tape,h.grew.os,h.grew.output,h.grew.size⟩,h.old,h.frz⟩
theorem Went.set {M M1 : Mem} {w w1 : World} (h : Went M w M1 w1) {p off : Nat} (v : Value) (hp : w.heap.size ≤ p) (hz : ¬ (p < M1.heap.size ∧ M1.frz p)) : Went M w M1 (w1.setCell ⟨p,off,none⟩ v) := by
 refine ⟨⟨by rw [set_size]; exact h.on.size,fun b hb hf => ?_⟩,h.le,h.grew.trans (grew_set _ _ _),fun b hb => ?_,h.frz⟩
 ·rw [set_other _ _ _ _ (show b ≠ p from fun e => hz (e ▸ ⟨hb,hf⟩)),h.on.same b hb hf]
 ·rw [set_other _ _ _ _ (show b ≠ p from by omega),h.old b hb]
theorem Went.quiet {M M1 : Mem} {w w1 w2 : World} (h : Went M w M1 w1) (hg : Grew w1 w2) (hs : ∀ b,b < w1.heap.size → w2.heap[b]? = w1.heap[b]?) : Went M w M1 w2 :=
 ⟨⟨Nat.le_trans h.on.size hg.size,fun b hb hz => by rw [hs b (Nat.lt_of_lt_of_le hb h.on.size),h.on.same b hb hz]⟩,h.le,h.grew.trans hg,fun b hb => by rw [hs b (Nat.lt_of_lt_of_le hb h.lt),h.old b hb],h.frz⟩
theorem Went.ret {M M1 M2 : Mem} {w w1 w2 : World} (h : Went M w M1 w1) (hg : Grew w1 w2) (hs : ∀ b,b < w1.heap.size → w2.heap[b]? = w1.heap[b]?) (hh : M2.heap = w2.heap) (hl : M1.Le M2)
  (hz : ∀ b,M2.frz b → (b < M1.heap.size ∧ M1.frz b) ∨ (w1.heap.size ≤ b ∧ b < w2.heap.size)) : Went M w M2 w2 :=
 ⟨⟨Nat.le_of_eq (by rw [hh]),fun b _ _ => by rw [hh]⟩,h.le.trans hl,h.grew.trans hg,fun b hb => by rw [hs b (Nat.lt_of_lt_of_le hb h.lt),h.old b hb],fun b hb hf => by
  rcases hz b hf with ⟨h1,h2⟩ | ⟨h1,_⟩
  ·exact h.frz b h1 h2
  ·exact .inr (Nat.le_trans h.lt h1)⟩
theorem on_heap {M : Mem} {w w' : World} (h : M.On w) (e : w'.heap = w.heap) : M.On w' := ⟨by rw [e]; exact h.size,fun b hb hz => by rw [e]; exact h.same b hb hz⟩
theorem ret_of {M M1 M2 : Mem} {w w1 w1' w2 : World} (hg : Grew w1' w2) (hs : ∀ b,b < w1'.heap.size → w2.heap[b]? = w1'.heap[b]?) (hh : M2.heap = w2.heap) (hl : M1.Le M2)
  (hz : ∀ b,M2.frz b → (b < M1.heap.size ∧ M1.frz b) ∨ (w1'.heap.size ≤ b ∧ b < w2.heap.size)) (h : Went M w M1 w1) (e1 : w1'.heap = w1.heap) (e2 : w1'.tape = w1.tape) (e3 : w1'.os = w1.os) (e4 : w1'.output = w1.output) : Went M w M2 w2 :=
 h.ret ⟨hg.tape.trans e2,hg.os.trans e3,hg.output.trans e4,by rw [← e1]; exact hg.size⟩ (by rw [← e1]; exact hs) hh hl (by rw [← e1]; exact hz)
theorem quiet_of {M M1 : Mem} {w w1 w1' w2 : World} (hg : Grew w1' w2) (hs : ∀ b,b < w1'.heap.size → w2.heap[b]? = w1'.heap[b]?) (h : Went M w M1 w1) (e1 : w1'.heap = w1.heap) (e2 : w1'.tape = w1.tape) (e3 : w1'.os = w1.os) (e4 : w1'.output = w1.output) : Went M w M1 w2 :=
 h.quiet ⟨hg.tape.trans e2,hg.os.trans e3,hg.output.trans e4,by rw [← e1]; exact hg.size⟩ (by rw [← e1]; exact hs)
theorem own_ret {M1 M2 : Mem} {w1 w2 : World} {p : Nat} (hp : p < w1.heap.size) (hn : ¬ (p < M1.heap.size ∧ M1.frz p)) (hz : ∀ b,M2.frz b → (b < M1.heap.size ∧ M1.frz b) ∨ (w1.heap.size ≤ b ∧ b < w2.heap.size)) : ¬ (p < M2.heap.size ∧ M2.frz p) := fun ⟨_,h⟩ => by
 rcases hz p h with h | ⟨h,_⟩
 ·exact hn h
 ·omega
theorem Went.own {M M1 : Mem} {w w1 : World} (h : Went M w M1 w1) {p : Nat} (hp : w1.heap.size ≤ p) : ¬ (p < M1.heap.size ∧ M1.frz p) := fun ⟨h1,_⟩ => by
 have := h.on.size
 omega
theorem Went.retM {M M1 : Mem} {w w1 : World} (h : Went M w M1 w1) {y : Value} {Q : Value → Mem → Prop} (hQ : ∀ M',M1.Le M' → Q y M') : RetM M w Q (.returned y) w1 := by
 have hle : M1.Le ⟨w1.heap,fun b => b < M1.heap.size ∧ M1.frz b⟩ := ⟨h.on.size,fun b hb hz => ⟨⟨hb,hz⟩,h.on.same b hb hz⟩⟩
 refine ⟨y,⟨w1.heap,fun b => b < M1.heap.size ∧ M1.frz b⟩,rfl,h.grew,h.old,rfl,h.le.trans hle,fun b hb => ?_,hQ _ hle⟩
 rcases h.frz b hb.1 hb.2 with h' | h'
 ·exact .inl h'
 ·exact .inr ⟨h',Nat.lt_of_lt_of_le hb.1 h.on.size⟩
end Go.Proofs.YtdkafeammgaknaaGreatDoor
namespace Go.Proofs.YtdkafeammgaknaaGreatDoor
open Go.RowKit Go Ev
theorem box17 {w : World} {b t : Nat} {x0 x1 x2 x3 x4 x5 x6 x7 x8 x9 x10 x11 x12 x13 x14 x15 x16 : Value} (h : w.heap[b]? = some (.cells #[x0,x1,x2,x3,x4,x5,x6,x7,x8,x9,x10,x11,x12,x13,x14,x15,x16] t (0,0))) :
  w.cell? ⟨b,0,none⟩ = some x0 ∧ w.cell? ⟨b,1,none⟩ = some x1 ∧ w.cell? ⟨b,2,none⟩ = some x2 ∧ w.cell? ⟨b,3,none⟩ = some x3 ∧ w.cell? ⟨b,4,none⟩ = some x4 ∧ w.cell? ⟨b,5,none⟩ = some x5 ∧ w.cell? ⟨b,6,none⟩ = some x6 ∧ w.cell? ⟨b,7,none⟩ = some x7 ∧ w.cell? ⟨b,8,none⟩ = some x8 ∧ w.cell? ⟨b,9,none⟩ = some x9 ∧ w.cell? ⟨b,10,none⟩ = some x10 ∧ w.cell? ⟨b,11,none⟩ = some x11 ∧
   w.cell? ⟨b,12,none⟩ = some x12 ∧ w.cell? ⟨b,13,none⟩ = some x13 ∧ w.cell? ⟨b,14,none⟩ = some x14 ∧ w.cell? ⟨b,15,none⟩ = some x15 ∧ w.cell? ⟨b,16,none⟩ = some x16 := by
 refine ⟨?_,?_,?_,?_,?_,?_,?_,?_,?_,?_,?_,?_,?_,?_,?_,?_,?_⟩ <;> (unfold World.cell?; simp only [h]; rfl)
theorem box14z {w : World} {b t : Nat} {x0 x1 x2 x3 x4 x5 x6 x7 x8 x9 x10 x11 x12 x13 : Value} (h : w.heap[b]? = some (.cells #[x0,x1,x2,x3,x4,x5,x6,x7,x8,x9,x10,x11,x12,x13] t (0,0))) :
  (w.cell? ⟨b,0,none⟩ = some x0 ∧ w.cell? ⟨b,1,none⟩ = some x1 ∧ w.cell? ⟨b,2,none⟩ = some x2 ∧ w.cell? ⟨b,3,none⟩ = some x3 ∧ w.cell? ⟨b,4,none⟩ = some x4 ∧ w.cell? ⟨b,5,none⟩ = some x5 ∧ w.cell? ⟨b,6,none⟩ = some x6 ∧ w.cell? ⟨b,7,none⟩ = some x7 ∧ w.cell? ⟨b,8,none⟩ = some x8 ∧ w.cell? ⟨b,9,none⟩ = some x9 ∧ w.cell? ⟨b,10,none⟩ = some x10 ∧ w.cell? ⟨b,11,none⟩ = some x11 ∧ w.cell? ⟨b,12,none⟩ = some x12 ∧ w.cell? ⟨b,13,none⟩ = some x13) ∧ w.frozen? ⟨b,0,none⟩ = false ∧ w.frozen? ⟨b,1,none⟩ = false ∧ w.frozen? ⟨b,2,none⟩ = false ∧ w.frozen? ⟨b,3,none⟩ = false ∧ w.frozen? ⟨b,4,none⟩ = false ∧ w.frozen? ⟨b,5,none⟩ = false ∧ w.frozen? ⟨b,6,none⟩ = false ∧ w.frozen? ⟨b,7,none⟩ = false ∧ w.frozen? ⟨b,8,none⟩ = false ∧ w.frozen? ⟨b,9,none⟩ = false ∧ w.frozen? ⟨b,10,none⟩ = false ∧ w.frozen? ⟨b,11,none⟩ = false ∧ w.frozen? ⟨b,12,none⟩ = false ∧ w.frozen? ⟨b,13,none⟩ = false := by
 refine ⟨⟨?_,?_,?_,?_,?_,?_,?_,?_,?_,?_,?_,?_,?_,?_⟩,?_,?_,?_,?_,?_,?_,?_,?_,?_,?_,?_,?_,?_,?_⟩
 all_goals first | (unfold World.cell?; simp only [h]; rfl) | (unfold World.frozen?; simp only [h]; rfl)
theorem box2 {w : World} {b t : Nat} {x0 x1 : Value} (h : w.heap[b]? = some (.cells #[x0,x1] t (0,0))) : w.cell? ⟨b,0,none⟩ = some x0 ∧ w.cell? ⟨b,1,none⟩ = some x1 := by
 refine ⟨?_,?_⟩ <;> (unfold World.cell?; simp only [h]; rfl)
theorem far14 (v : World) (b p : Nat) (h : b ≠ p) (x0 x1 x2 x3 x4 x5 x6 x7 x8 x9 x10 x11 x12 x13 : Value) : ((((((((((((((v.setCell ⟨p,0,none⟩ x0).setCell ⟨p,1,none⟩ x1).setCell ⟨p,2,none⟩ x2).setCell ⟨p,3,none⟩ x3).setCell ⟨p,4,none⟩ x4).setCell ⟨p,5,none⟩ x5).setCell ⟨p,6,none⟩ x6).setCell ⟨p,7,none⟩ x7).setCell ⟨p,8,none⟩ x8).setCell ⟨p,9,none⟩ x9).setCell ⟨p,10,none⟩ x10).setCell ⟨p,11,none⟩ x11).setCell ⟨p,12,none⟩ x12).setCell ⟨p,13,none⟩ x13).heap[b]? = v.heap[b]? := by
 rw [set_far _ _ _ _ _ h,set_far _ _ _ _ _ h,set_far _ _ _ _ _ h,set_far _ _ _ _ _ h,set_far _ _ _ _ _ h,set_far _ _ _ _ _ h,set_far _ _ _ _ _ h,set_far _ _ _ _ _ h,set_far _ _ _ _ _ h,set_far _ _ _ _ _ h,set_far _ _ _ _ _ h,set_far _ _ _ _ _ h,set_far _ _ _ _ _ h,set_far _ _ _ _ _ h]
theorem Went.set14 {M M1 : Mem} {w v : World} (h : Went M w M1 v) {p : Nat} (x0 x1 x2 x3 x4 x5 x6 x7 x8 x9 x10 x11 x12 x13 : Value) (hp : w.heap.size ≤ p) (hz : ¬ (p < M1.heap.size ∧ M1.frz p)) : Went M w M1 ((((((((((((((v.setCell ⟨p,0,none⟩ x0).setCell ⟨p,1,none⟩ x1).setCell ⟨p,2,none⟩ x2).setCell ⟨p,3,none⟩ x3).setCell ⟨p,4,none⟩ x4).setCell ⟨p,5,none⟩ x5).setCell ⟨p,6,none⟩ x6).setCell ⟨p,7,none⟩ x7).setCell ⟨p,8,none⟩ x8).setCell ⟨p,9,none⟩ x9).setCell ⟨p,10,none⟩ x10).setCell ⟨p,11,none⟩ x11).setCell ⟨p,12,none⟩ x12).setCell ⟨p,13,none⟩ x13) :=
 (((((((((((((h.set _ hp hz).set _ hp hz).set _ hp hz).set _ hp hz).set _ hp hz).set _ hp hz).set _ hp hz).set _ hp hz).set _ hp hz).set _ hp hz).set _ hp hz).set _ hp hz).set _ hp hz).set _ hp hz
theorem end14 {v : World} {p t : Nat} {y0 y1 y2 y3 y4 y5 y6 y7 y8 y9 y10 y11 y12 y13 : Value} (h : v.heap[p]? = some (.cells #[y0,y1,y2,y3,y4,y5,y6,y7,y8,y9,y10,y11,y12,y13] t (0,0))) (x0 x1 x2 x3 x4 x5 x6 x7 x8 x9 x10 x11 x12 x13 : Value) : ((((((((((((((v.setCell ⟨p,0,none⟩ x0).setCell ⟨p,1,none⟩ x1).setCell ⟨p,2,none⟩ x2).setCell ⟨p,3,none⟩ x3).setCell ⟨p,4,none⟩ x4).setCell ⟨p,5,none⟩ x5).setCell ⟨p,6,none⟩ x6).setCell ⟨p,7,none⟩ x7).setCell ⟨p,8,none⟩ x8).setCell ⟨p,9,none⟩ x9).setCell ⟨p,10,none⟩ x10).setCell ⟨p,11,none⟩ x11).setCell ⟨p,12,none⟩ x12).setCell ⟨p,13,none⟩ x13).heap[p]? = some (.cells #[x0,x1,x2,x3,x4,x5,x6,x7,x8,x9,x10,x11,x12,x13] t (0,0)) := by
 have h0 : (v.setCell ⟨p,0,none⟩ x0).heap[p]? = some (.cells #[x0,y1,y2,y3,y4,y5,y6,y7,y8,y9,y10,y11,y12,y13] t (0,0)) := setc_same _ p 0 x0 h
 have h1 : ((v.setCell ⟨p,0,none⟩ x0).setCell ⟨p,1,none⟩ x1).heap[p]? = some (.cells #[x0,x1,y2,y3,y4,y5,y6,y7,y8,y9,y10,y11,y12,y13] t (0,0)) := setc_same _ p 1 x1 h0
 have h2 : (((v.setCell ⟨p,0,none⟩ x0).setCell ⟨p,1,none⟩ x1).setCell ⟨p,2,none⟩ x2).heap[p]? = some (.cells #[x0,x1,x2,y3,y4,y5,y6,y7,y8,y9,y10,y11,y12,y13] t (0,0)) := setc_same _ p 2 x2 h1
 have h3 : ((((v.setCell ⟨p,0,none⟩ x0).setCell ⟨p,1,none⟩ x1).setCell ⟨p,2,none⟩ x2).setCell ⟨p,3,none⟩ x3).heap[p]? = some (.cells #[x0,x1,x2,x3,y4,y5,y6,y7,y8,y9,y10,y11,y12,y13] t (0,0)) := setc_same _ p 3 x3 h2
 have h4 : (((((v.setCell ⟨p,0,none⟩ x0).setCell ⟨p,1,none⟩ x1).setCell ⟨p,2,none⟩ x2).setCell ⟨p,3,none⟩ x3).setCell ⟨p,4,none⟩ x4).heap[p]? = some (.cells #[x0,x1,x2,x3,x4,y5,y6,y7,y8,y9,y10,y11,y12,y13] t (0,0)) := setc_same _ p 4 x4 h3
 have h5 : ((((((v.setCell ⟨p,0,none⟩ x0).setCell ⟨p,1,none⟩ x1).setCell ⟨p,2,none⟩ x2).setCell ⟨p,3,none⟩ x3).setCell ⟨p,4,none⟩ x4).setCell ⟨p,5,none⟩ x5).heap[p]? = some (.cells #[x0,x1,x2,x3,x4,x5,y6,y7,y8,y9,y10,y11,y12,y13] t (0,0)) := setc_same _ p 5 x5 h4
 have h6 : (((((((v.setCell ⟨p,0,none⟩ x0).setCell ⟨p,1,none⟩ x1).setCell ⟨p,2,none⟩ x2).setCell ⟨p,3,none⟩ x3).setCell ⟨p,4,none⟩ x4).setCell ⟨p,5,none⟩ x5).setCell ⟨p,6,none⟩ x6).heap[p]? = some (.cells #[x0,x1,x2,x3,x4,x5,x6,y7,y8,y9,y10,y11,y12,y13] t (0,0)) := setc_same _ p 6 x6 h5
 have h7 : ((((((((v.setCell ⟨p,0,none⟩ x0).setCell ⟨p,1,none⟩ x1).setCell ⟨p,2,none⟩ x2).setCell ⟨p,3,none⟩ x3).setCell ⟨p,4,none⟩ x4).setCell ⟨p,5,none⟩ x5).setCell ⟨p,6,none⟩ x6).setCell ⟨p,7,none⟩ x7).heap[p]? = some (.cells #[x0,x1,x2,x3,x4,x5,x6,x7,y8,y9,y10,y11,y12,y13] t (0,0)) := setc_same _ p 7 x7 h6
 have h8 : (((((((((v.setCell ⟨p,0,none⟩ x0).setCell ⟨p,1,none⟩ x1).setCell ⟨p,2,none⟩ x2).setCell ⟨p,3,none⟩ x3).setCell ⟨p,4,none⟩ x4).setCell ⟨p,5,none⟩ x5).setCell ⟨p,6,none⟩ x6).setCell ⟨p,7,none⟩ x7).setCell ⟨p,8,none⟩ x8).heap[p]? = some (.cells #[x0,x1,x2,x3,x4,x5,x6,x7,x8,y9,y10,y11,y12,y13] t (0,0)) := setc_same _ p 8 x8 h7
 have h9 : ((((((((((v.setCell ⟨p,0,none⟩ x0).setCell ⟨p,1,none⟩ x1).setCell ⟨p,2,none⟩ x2).setCell ⟨p,3,none⟩ x3).setCell ⟨p,4,none⟩ x4).setCell ⟨p,5,none⟩ x5).setCell ⟨p,6,none⟩ x6).setCell ⟨p,7,none⟩ x7).setCell ⟨p,8,none⟩ x8).setCell ⟨p,9,none⟩ x9).heap[p]? = some (.cells #[x0,x1,x2,x3,x4,x5,x6,x7,x8,x9,y10,y11,y12,y13] t (0,0)) := setc_same _ p 9 x9 h8
 have h10 : (((((((((((v.setCell ⟨p,0,none⟩ x0).setCell ⟨p,1,none⟩ x1).setCell ⟨p,2,none⟩ x2).setCell ⟨p,3,none⟩ x3).setCell ⟨p,4,none⟩ x4).setCell ⟨p,5,none⟩ x5).setCell ⟨p,6,none⟩ x6).setCell ⟨p,7,none⟩ x7).setCell ⟨p,8,none⟩ x8).setCell ⟨p,9,none⟩ x9).setCell ⟨p,10,none⟩ x10).heap[p]? = some (.cells #[x0,x1,x2,x3,x4,x5,x6,x7,x8,x9,x10,y11,y12,y13] t (0,0)) := setc_same _ p 10 x10 h9
 have h11 : ((((((((((((v.setCell ⟨p,0,none⟩ x0).setCell ⟨p,1,none⟩ x1).setCell ⟨p,2,none⟩ x2).setCell ⟨p,3,none⟩ x3).setCell ⟨p,4,none⟩ x4).setCell ⟨p,5,none⟩ x5).setCell ⟨p,6,none⟩ x6).setCell ⟨p,7,none⟩ x7).setCell ⟨p,8,none⟩ x8).setCell ⟨p,9,none⟩ x9).setCell ⟨p,10,none⟩ x10).setCell ⟨p,11,none⟩ x11).heap[p]? = some (.cells #[x0,x1,x2,x3,x4,x5,x6,x7,x8,x9,x10,x11,y12,y13] t (0,0)) := setc_same _ p 11 x11 h10
 have h12 : (((((((((((((v.setCell ⟨p,0,none⟩ x0).setCell ⟨p,1,none⟩ x1).setCell ⟨p,2,none⟩ x2).setCell ⟨p,3,none⟩ x3).setCell ⟨p,4,none⟩ x4).setCell ⟨p,5,none⟩ x5).setCell ⟨p,6,none⟩ x6).setCell ⟨p,7,none⟩ x7).setCell ⟨p,8,none⟩ x8).setCell ⟨p,9,none⟩ x9).setCell ⟨p,10,none⟩ x10).setCell ⟨p,11,none⟩ x11).setCell ⟨p,12,none⟩ x12).heap[p]? = some (.cells #[x0,x1,x2,x3,x4,x5,x6,x7,x8,x9,x10,x11,x12,y13] t (0,0)) := setc_same _ p 12 x12 h11
 have h13 : ((((((((((((((v.setCell ⟨p,0,none⟩ x0).setCell ⟨p,1,none⟩ x1).setCell ⟨p,2,none⟩ x2).setCell ⟨p,3,none⟩ x3).setCell ⟨p,4,none⟩ x4).setCell ⟨p,5,none⟩ x5).setCell ⟨p,6,none⟩ x6).setCell ⟨p,7,none⟩ x7).setCell ⟨p,8,none⟩ x8).setCell ⟨p,9,none⟩ x9).setCell ⟨p,10,none⟩ x10).setCell ⟨p,11,none⟩ x11).setCell ⟨p,12,none⟩ x12).setCell ⟨p,13,none⟩ x13).heap[p]? = some (.cells #[x0,x1,x2,x3,x4,x5,x6,x7,x8,x9,x10,x11,x12,x13] t (0,0)) := setc_same _ p 13 x13 h12
 exact h13
theorem results_cell {P : Program} {fn : Func} {t : Tmp} {ty : TypeId} (h : fn.results = #[.cell t ty]) {tmps : Array Value} {w : World} {g e : Nat} {cs : Array Value} {fr : Nat × Nat} {d : TypeDesc} (ht : tmps.getD t undef = .pointer (some ⟨g,0,none⟩)) (hg : w.heap[g]? = some (.cells cs e fr))
  (hu : P.underlying ty = some d) (hd : (match d with | .struct _ | .array _ _ => true | _ => false) = true) (hi : (P.info? ty).map (·.size) = some cs.size) : (results fn tmps).run P w = .ok (.agg cs) w := by
 have := run_loadVar_row w g e ty cs fr d hg hu hd hi
 have ht' : tmps[t]?.getD undef = .pointer (some ⟨g,0,none⟩) := by simpa using ht
 simp [results,h,ht',asAddr,Sem.run_bind,this]
set_option maxHeartbeats 4000000 in
set_option maxRecDepth 4000 in
theorem quest_walk {M : Mem} {np nt : Nat} {P30 : Nat → Nat → Nat → Nat → Value → Mem → Prop} {GON : Value → Mem → Prop} (hP : ∀ b0 c0 b1 c1 sv M M',M.Le M' → P30 b0 c0 b1 c1 sv M → P30 b0 c0 b1 c1 sv M') (hG : ∀ y M M',M.Le M' → GON y M → GON y M') (hGs : ∀ y M,GON y M → ∃ a n c,y = Value.slice a n c)
  {k s0 s1 : Int} {hf : Bool} {ds : Value} {f0 f1 f2 f3 f4 f5 f6 f7 f8 sh a b : Int} {g0 g1 g2 g3 g4 g5 g6 g7 g8 : ByteArray} {w : World} (hw : M.On w)
  (h30 : ∀ w,M.On w → Calls Tryz.prog 21 #[.agg #[.int .u8 k,.int .i8 s0,.int .i8 s1,.bool hf,ds]] w (RetM M w fun y M' => ∃ b0 c0 b1 c1 sva svn svc,y = .agg #[.slice (some ⟨b0,0,none⟩) np c0,.slice (some ⟨b1,0,none⟩) nt c1,.string ⟨#[98,97,115,101]⟩,.slice sva svn svc] ∧ P30 b0 c0 b1 c1 (.slice sva svn svc) M'))
  (hfr : ∀ w,M.On w → Calls Tryz.prog 22 #[.agg #[.int .i8 f0,.int .i8 f1,.int .i8 f2,.int .i8 f3,.int .i8 f4,.int .i8 f5,.int .i8 f6,.int .i8 f7,.int .i8 f8]] w (QuietP (.agg #[.string g0,.string g1,.string g2,.string g3,.string g4,.string g5,.string g6,.string g7,.string g8]) w))
  (hgn : ∀ M1 w,M.Le M1 → M1.On w → Calls Tryz.prog 23 #[.agg #[.int .u8 k,.int .i8 s0,.int .i8 s1,.bool hf,ds,.int .i8 f0,.int .i8 f1,.int .i8 f2,.int .i8 f3,.int .i8 f4,.int .i8 f5,.int .i8 f6,.int .i8 f7,.int .i8 f8,.int .u8 sh,.int .i8 a,.int .i8 b]] w (RetM M1 w GON)) :
  Calls Tryz.prog 6 #[.agg #[.int .u8 k,.int .i8 s0,.int .i8 s1,.bool hf,ds,.int .i8 f0,.int .i8 f1,.int .i8 f2,.int .i8 f3,.int .i8 f4,.int .i8 f5,.int .i8 f6,.int .i8 f7,.int .i8 f8,.int .u8 sh,.int .i8 a,.int .i8 b]] w
   (RetM M w fun y M' => ∃ b0 c0 b1 c1 sva svn svc pa pn pc,y = .agg #[.slice (some ⟨b0,0,none⟩) np c0,.slice (some ⟨b1,0,none⟩) nt c1,.string ⟨#[98,97,115,101]⟩,.slice sva svn svc,.string g0,.string g1,.string g2,.string g3,.string g4,.string g5,.string g6,.string g7,.string g8,.slice pa pn pc] ∧ P30 b0 c0 b1 c1 (.slice sva svn svc) M' ∧ GON (.slice pa pn pc) M') := by
 have W0 := Lib.hid (Went.refl hw)
 have HM := Lib.hid h30; clear h30
 have HF := Lib.hid hfr; clear hfr
 have HG := Lib.hid hgn; clear hgn
 have HP := Lib.hid hP; clear hP
 have HGM := Lib.hid hG; clear hG
 have HGS := Lib.hid hGs; clear hGs
 go_enter Tryz.func6,Tryz.ntmps6
 go_wp2_with fail
 obtain ⟨v0,hv0⟩ : ∃ v,v = (w.alloc (Obj.cells #[.int .u8 k,.int .i8 s0,.int .i8 s1,.bool hf,ds,.int .i8 f0,.int .i8 f1,.int .i8 f2,.int .i8 f3,.int .i8 f4,.int .i8 f5,.int .i8 f6,.int .i8 f7,.int .i8 f8,.int .u8 sh,.int .i8 a,.int .i8 b] 33)).alloc (Obj.cells #[.slice none 0 0,.slice none 0 0,.string ⟨#[]⟩,.slice none 0 0,.string ⟨#[]⟩,.string ⟨#[]⟩,.string ⟨#[]⟩,.string ⟨#[]⟩,.string ⟨#[]⟩,.string ⟨#[]⟩,.string ⟨#[]⟩,.string ⟨#[]⟩,.string ⟨#[]⟩,.slice none 0 0] 52) := ⟨_,rfl⟩
 rw [← hv0]
 have V0 := Lib.hid (show Went M w M v0 from hv0 ▸ ((W0.out.alloc _).alloc _))
 have B0 : v0.heap[w.heap.size]? = some (Obj.cells #[.int .u8 k,.int .i8 s0,.int .i8 s1,.bool hf,ds,.int .i8 f0,.int .i8 f1,.int .i8 f2,.int .i8 f3,.int .i8 f4,.int .i8 f5,.int .i8 f6,.int .i8 f7,.int .i8 f8,.int .u8 sh,.int .i8 a,.int .i8 b] 33) := by rw [hv0,same_alloc _ _ _ (by rw [size_alloc]; omega),new_alloc]
 have C0 : v0.heap[w.heap.size + 1]? = some (Obj.cells #[.slice none 0 0,.slice none 0 0,.string ⟨#[]⟩,.slice none 0 0,.string ⟨#[]⟩,.string ⟨#[]⟩,.string ⟨#[]⟩,.string ⟨#[]⟩,.string ⟨#[]⟩,.string ⟨#[]⟩,.string ⟨#[]⟩,.string ⟨#[]⟩,.string ⟨#[]⟩,.slice none 0 0] 52) := by rw [hv0,← size_alloc w (Obj.cells #[.int .u8 k,.int .i8 s0,.int .i8 s1,.bool hf,ds,.int .i8 f0,.int .i8 f1,.int .i8 f2,.int .i8 f3,.int .i8 f4,.int .i8 f5,.int .i8 f6,.int .i8 f7,.int .i8 f8,.int .u8 sh,.int .i8 a,.int .i8 b] 33),new_alloc]
 have hz0 : w.heap.size + 2 = v0.heap.size := by rw [hv0,size_alloc,size_alloc]
 clear hv0
 have K0 := box17 (w := v0.drew) B0
 have HB0 := Lib.hid B0; have HC0 := Lib.hid C0; have HZ0 := Lib.hid hz0; clear B0 C0 hz0
 have OWN0 : Hid (¬ (w.heap.size + 1 < M.heap.size ∧ M.frz (w.heap.size + 1))) := Lib.hid (fun h => by have := hw.size; omega)
 go_region_held3 (fun w' => w'.cell? ⟨w.heap.size,0,none⟩ = some (.int .u8 k) ∧ w'.cell? ⟨w.heap.size,1,none⟩ = some (.int .i8 s0) ∧ w'.cell? ⟨w.heap.size,2,none⟩ = some (.int .i8 s1) ∧ w'.cell? ⟨w.heap.size,3,none⟩ = some (.bool hf) ∧ w'.cell? ⟨w.heap.size,4,none⟩ = some (ds) ∧ w'.cell? ⟨w.heap.size,5,none⟩ = some (.int .i8 f0) ∧ w'.cell? ⟨w.heap.size,6,none⟩ = some (.int .i8 f1) ∧ w'.cell? ⟨w.heap.size,7,none⟩ = some (.int .i8 f2) ∧ w'.cell? ⟨w.heap.size,8,none⟩ = some (.int .i8 f3) ∧ w'.cell? ⟨w.heap.size,9,none⟩ = some (.int .i8 f4) ∧ w'.cell? ⟨w.heap.size,10,none⟩ = some (.int .i8 f5) ∧ w'.cell? ⟨w.heap.size,11,none⟩ = some (.int .i8 f6) ∧ w'.cell? ⟨w.heap.size,12,none⟩ = some (.int .i8 f7) ∧ w'.cell? ⟨w.heap.size,13,none⟩ = some (.int .i8 f8) ∧ w'.cell? ⟨w.heap.size,14,none⟩ = some (.int .u8 sh) ∧ w'.cell? ⟨w.heap.size,15,none⟩ = some (.int .i8 a) ∧ w'.cell? ⟨w.heap.size,16,none⟩ = some (.int .i8 b)) (first | (with_reducible exact K0) | (with_reducible exact K1) | (with_reducible exact K2) | (with_reducible exact K3) | (exact box17 ((far14 v3 w.heap.size (w.heap.size + 1) (Nat.ne_of_lt (Nat.lt_succ_self _)) _ _ _ _ _ _ _ _ _ _ _ _ _ _).trans HB3.out)))
  (first
   | (go_at_call 21; refine Calls.mono (HM.out _ ?_) ?_; (exact on_heap V0.out.on rfl); rintro e v1 ⟨y,M1,rfl,hgr,hsm,hh,hle,hz,b0,c0,b1,c1,sva,svn,svc,rfl,hp⟩; have V1 := Lib.hid (ret_of hgr hsm hh hle hz V0.out rfl rfl rfl rfl); have HB1 := Lib.hid ((hsm _ (Array.getElem?_eq_some_iff.1 HB0.out).1).trans HB0.out); have HC1 := Lib.hid ((hsm _ (Array.getElem?_eq_some_iff.1 HC0.out).1).trans HC0.out); have K1 := box17 HB1.out; have HP1 := Lib.hid hp; have O1 := Lib.hid (own_ret (p := w.heap.size + 1) (Array.getElem?_eq_some_iff.1 HC0.out).1 OWN0.out hz); have HLE1 := Lib.hid hle; clear hgr hsm hh hle hz hp)
   | (go_at_call 22; refine Calls.mono (HF.out _ ?_) ?_; (exact on_heap (V1.out.on.le V1.out.le) rfl); rintro e v2 ⟨rfl,hgr,hsm⟩; have V2 := Lib.hid (quiet_of hgr hsm V1.out rfl rfl rfl rfl); have HB2 := Lib.hid ((hsm _ (Array.getElem?_eq_some_iff.1 HB1.out).1).trans HB1.out); have HC2 := Lib.hid ((hsm _ (Array.getElem?_eq_some_iff.1 HC1.out).1).trans HC1.out); have K2 := box17 HB2.out; clear hgr hsm)
   | (go_at_call 23; refine Calls.mono (HG.out M1 _ V2.out.le ?_) ?_; (exact on_heap V2.out.on rfl); rintro e v3 ⟨y,M2,rfl,hgr,hsm,hh,hle,hz,hgon⟩; obtain ⟨pa,pn,pc,rfl⟩ := HGS.out _ _ hgon; have V3 := Lib.hid (ret_of hgr hsm hh hle hz V2.out rfl rfl rfl rfl); have HB3 := Lib.hid ((hsm _ (Array.getElem?_eq_some_iff.1 HB2.out).1).trans HB2.out); have HC3 := ((hsm _ (Array.getElem?_eq_some_iff.1 HC2.out).1).trans HC2.out); have K3 := box17 HB3.out; obtain ⟨⟨d0,d1,d2,d3,d4,d5,d6,d7,d8,d9,d10,d11,d12,d13⟩,z0,z1,z2,z3,z4,z5,z6,z7,z8,z9,z10,z11,z12,z13⟩ := box14z HC3; have HCC := Lib.hid HC3; have HGN := Lib.hid hgon; have O3 := Lib.hid (own_ret (p := w.heap.size + 1) (Array.getElem?_eq_some_iff.1 HC2.out).1 O1.out hz); have HLE3 := Lib.hid hle; clear hgr hsm hh hle hz hgon HC3))
 go_wp2_with fail
 refine bodyPost_ret (results_cell (t := 2) (ty := 52) rfl rfl (end14 HCC.out _ _ _ _ _ _ _ _ _ _ _ _ _ _) Tryz.underlying52 rfl (by kernel_rfl)) rfl ?_
 exact (V3.out.set14 (p := w.heap.size + 1) _ _ _ _ _ _ _ _ _ _ _ _ _ _ (Nat.le_succ _) O3.out).retM fun M' hl => ⟨_,_,_,_,_,_,_,_,_,_,rfl,HP.out _ _ _ _ _ _ _ (HLE3.out.trans hl) HP1.out,HGM.out _ _ _ hl HGN.out⟩
end Go.Proofs.YtdkafeammgaknaaGreatDoor
namespace Go.Proofs.YtdkafeammgaknaaGreatDoor
open Go.RowKit Go Ev
def slipR (kx at_ : Int) : Value := .agg #[.int .u8 kx,.int .u8 at_]
theorem two_0 (w : World) (o o' : Obj) : ((w.alloc o).alloc o').heap[w.heap.size]? = some o := by
 rw [same_alloc _ _ _ (by rw [size_alloc]; omega),new_alloc]
theorem two_1 (w : World) (o o' : Obj) : ((w.alloc o).alloc o').heap[w.heap.size + 1]? = some o' := by
 rw [← size_alloc w o,new_alloc]
theorem fits30_walk {k s0 s1 : Int} {hf : Bool} {b : Option Addr} {n c : Nat} (w : World) :
  Calls Tryz.prog 5 #[.agg #[.int .u8 k,.int .i8 s0,.int .i8 s1,.bool hf,.slice b n c]] w (QuietP (.bool (decide ((n : Int) ≤ 3))) w) := by
 go_enter Tryz.func5,Tryz.ntmps5
 go_wp2_with fail
 go_ret
 exact ⟨rfl,grew_alloc _ _,same_alloc _ _⟩
def sqA : Code → Code | .seq a _ => a | c => c
def sqB : Code → Code | .seq _ b => b | c => c
noncomputable def bodyS : Code := Tryz.f3.body.getD .skip
noncomputable def head1 : Code := sqA bodyS
noncomputable def head2 : Code := sqA (sqB bodyS)
noncomputable def head3 : Code := sqA (sqB (sqB bodyS))
noncomputable def head4 : Code := sqA (sqB (sqB (sqB bodyS)))
def LawQ (w : World) (e : Ending) (w' : World) : Prop := e = .returned (.bool true) ∧ Grew w w' ∧ ∀ b,b < w.heap.size → w'.heap[b]? = w.heap[b]?
theorem quiet_old {w1 w2 : World} (hs : ∀ b,b < w1.heap.size → w2.heap[b]? = w1.heap[b]?) {b : Nat} {o : Obj} (h : w1.heap[b]? = some o) : w2.heap[b]? = some o := (hs b (Array.getElem?_eq_some_iff.1 h).1).trans h
section
variable {M : Mem} {k s0 s1 : Int} {hf : Bool} {ds : Value} {f0 f1 f2 f3 f4 f5 f6 f7 f8 sh a b : Int} {kx at_ : Int} {lb : Option Addr} {ln lc : Nat} {w : World} (hw : M.On w) (hk : ∀ w,M.On w → Calls Tryz.prog 4 #[] w (QuietP (.bool true) w))
include hw hk
set_option maxHeartbeats 1000000 in
set_option maxRecDepth 4000 in
theorem many_wpS (hfit : ∀ w,Calls Tryz.prog 5 #[.agg #[.int .u8 k,.int .i8 s0,.int .i8 s1,.bool hf,ds]] w (QuietP (.bool false) w)) (rest : Code) :
  Code.wp Tryz.prog (head1.seq (head2.seq (head3.seq rest))) (bodyPost Tryz.prog Tryz.f3 (LawQ w)) { tmps := #[.agg #[.int .u8 k,.int .i8 s0,.int .i8 s1,.bool hf,ds,.int .i8 f0,.int .i8 f1,.int .i8 f2,.int .i8 f3,.int .i8 f4,.int .i8 f5,.int .i8 f6,.int .i8 f7,.int .i8 f8,.int .u8 sh,.int .i8 a,.int .i8 b],.agg #[.int .u8 kx,.int .u8 at_],.slice lb ln lc] ++ Array.replicate (140 - 3) undef,defers := [] } w := by
 have W0 := Lib.hid (Went.refl hw); clear hw
 have K := Lib.hid hk; clear hk
 have F := Lib.hid hfit; clear hfit
 simp only [head1,head2,head3,head4,bodyS,sqA,sqB,Tryz.f3,Option.getD_some,List.size_toArray,List.length_cons,List.length_nil,Nat.reduceAdd,Nat.reduceSub,Array.replicate_succ,Array.replicate_zero,List.push_toArray,List.append_toArray,List.nil_append,List.cons_append]
 go_wp2_with fail
 refine Calls.mono (K.out _ ((W0.out.alloc _).alloc _).on) ?_
 rintro e w1 ⟨rfl,hgr,hsm⟩
 have W1 := Lib.hid (((W0.out.alloc _).alloc _).quiet hgr hsm)
 have hb := quiet_old hsm (two_0 _ _ _)
 have hs := quiet_old hsm (two_1 _ _ _)
 obtain ⟨c0,c1,c2,c3,c4,c5,c6,c7,c8,c9,c10,c11,c12,c13,c14,c15,c16⟩ := box17 hb
 have HB := Lib.hid hb; have HSL := Lib.hid hs; clear hb hs hgr hsm
 go_wp2_with fail
 refine Calls.mono (F.out _) ?_
 rintro e w2 ⟨rfl,hgr,hsm⟩
 have W2 := Lib.hid (W1.out.quiet hgr hsm)
 have hb := quiet_old hsm HB.out
 have hs := quiet_old hsm HSL.out
 clear c0 c1 c2 c3 c4 c5 c6 c7 c8 c9 c10 c11 c12 c13 c14 c15 c16
 clear hb hs hgr hsm
 go_wp2_with fail
 refine Calls.mono (K.out _ W2.out.on) ?_
 rintro e w3 ⟨rfl,hgr,hsm⟩
 have W3 := Lib.hid (W2.out.quiet hgr hsm)
 clear hgr hsm
 go_wp2_with fail
 go_ret
 exact ⟨rfl,W3.out.grew,W3.out.old⟩
set_option maxHeartbeats 1000000 in
set_option maxRecDepth 4000 in
theorem long_wpS (hfit : ∀ w,Calls Tryz.prog 5 #[.agg #[.int .u8 k,.int .i8 s0,.int .i8 s1,.bool hf,ds]] w (QuietP (.bool true) w)) (hln : 6 < ln) (rest : Code) :
  Code.wp Tryz.prog (head1.seq (head2.seq (head3.seq rest))) (bodyPost Tryz.prog Tryz.f3 (LawQ w)) { tmps := #[.agg #[.int .u8 k,.int .i8 s0,.int .i8 s1,.bool hf,ds,.int .i8 f0,.int .i8 f1,.int .i8 f2,.int .i8 f3,.int .i8 f4,.int .i8 f5,.int .i8 f6,.int .i8 f7,.int .i8 f8,.int .u8 sh,.int .i8 a,.int .i8 b],.agg #[.int .u8 kx,.int .u8 at_],.slice lb ln lc] ++ Array.replicate (140 - 3) undef,defers := [] } w := by
 have W0 := Lib.hid (Went.refl hw); clear hw
 have K := Lib.hid hk; clear hk
 have F := Lib.hid hfit; clear hfit
 have h6 : (6 : Int) < (ln : Int) := by omega
 simp only [head1,head2,head3,head4,bodyS,sqA,sqB,Tryz.f3,Option.getD_some,List.size_toArray,List.length_cons,List.length_nil,Nat.reduceAdd,Nat.reduceSub,Array.replicate_succ,Array.replicate_zero,List.push_toArray,List.append_toArray,List.nil_append,List.cons_append]
 go_wp2_with fail
 refine Calls.mono (K.out _ ((W0.out.alloc _).alloc _).on) ?_
 rintro e w1 ⟨rfl,hgr,hsm⟩
 have W1 := Lib.hid (((W0.out.alloc _).alloc _).quiet hgr hsm)
 have hb := quiet_old hsm (two_0 _ _ _)
 have hs := quiet_old hsm (two_1 _ _ _)
 obtain ⟨c0,c1,c2,c3,c4,c5,c6,c7,c8,c9,c10,c11,c12,c13,c14,c15,c16⟩ := box17 hb
 have HB := Lib.hid hb; have HSL := Lib.hid hs; clear hb hs hgr hsm
 go_wp2_with fail
 refine Calls.mono (F.out _) ?_
 rintro e w2 ⟨rfl,hgr,hsm⟩
 have W2 := Lib.hid (W1.out.quiet hgr hsm)
 have hb := quiet_old hsm HB.out
 have hs := quiet_old hsm HSL.out
 clear c0 c1 c2 c3 c4 c5 c6 c7 c8 c9 c10 c11 c12 c13 c14 c15 c16
 clear hb hs hgr hsm
 go_wp2_with fail
 refine Calls.mono (K.out _ W2.out.on) ?_
 rintro e w3 ⟨rfl,hgr,hsm⟩
 have W3 := Lib.hid (W2.out.quiet hgr hsm)
 clear hgr hsm
 go_wp2_with fail
 go_ret
 exact ⟨rfl,W3.out.grew,W3.out.old⟩
set_option maxHeartbeats 1000000 in
set_option maxRecDepth 4000 in
theorem few_wpS (hfit : ∀ w,Calls Tryz.prog 5 #[.agg #[.int .u8 k,.int .i8 s0,.int .i8 s1,.bool hf,ds]] w (QuietP (.bool true) w)) (hln : ln ≤ 6) {np nt : Nat} {PQ : Nat → Nat → Nat → Nat → Value → Value → Mem → Prop} {PC : Nat → Nat → Value → Value → Value → Value → Mem → Prop} {g0 g1 g2 g3 g4 g5 g6 g7 g8 : ByteArray}
  (hq : ∀ w,M.On w → Calls Tryz.prog 6 #[.agg #[.int .u8 k,.int .i8 s0,.int .i8 s1,.bool hf,ds,.int .i8 f0,.int .i8 f1,.int .i8 f2,.int .i8 f3,.int .i8 f4,.int .i8 f5,.int .i8 f6,.int .i8 f7,.int .i8 f8,.int .u8 sh,.int .i8 a,.int .i8 b]] w (RetM M w fun y M' => ∃ b0 c0 b1 c1 sva svn svc pa pn pc,y = .agg #[.slice (some ⟨b0,0,none⟩) np c0,.slice (some ⟨b1,0,none⟩) nt c1,.string ⟨#[98,97,115,101]⟩,.slice sva svn svc,.string g0,.string g1,.string g2,.string g3,.string g4,.string g5,.string g6,.string g7,.string g8,.slice pa pn pc] ∧ PQ b0 c0 b1 c1 (.slice sva svn svc) (.slice pa pn pc) M'))
  (hch : ∀ (M1 : Mem) (b0 c0 b1 c1 : Nat) (sv pv : Value) (w : World),M.Le M1 → M1.On w → PQ b0 c0 b1 c1 sv pv M1 → Calls Tryz.prog 7 #[.agg #[.slice (some ⟨b0,0,none⟩) np c0,.slice (some ⟨b1,0,none⟩) nt c1,.string ⟨#[98,97,115,101]⟩,sv],.agg #[.int .u8 kx,.int .u8 at_]] w
   (RetM M1 w fun y M' => ∃ ma mn mc bt ea en ec,y = .agg #[.slice (some ⟨b0,0,none⟩) np c0,.slice ma mn mc,.string bt,.slice ea en ec] ∧ PC b0 c0 (.slice ma mn mc) (.string bt) (.slice ea en ec) pv M'))
  {QQ : Exit → Act → World → Prop} {rest : Code} (hQ : ∀ (M' : Mem) (b0 c0 : Nat) (ma : Option Addr) (mn mc : Nat) (bt : ByteArray) (ea : Option Addr) (en ec : Nat) (pa : Option Addr) (pn pc : Nat) (p7 : Nat) (ac : Act) (w' : World),Went M w M' w' → ac.tmps.size = 140 → ac.tmps[2]? = some (.slice lb ln lc) → ac.tmps[7]? = some (.pointer (some ⟨p7,0,none⟩)) → ac.defers = [] →
   w'.heap[p7]? = some (.cells #[.slice (some ⟨b0,0,none⟩) np c0,.slice ma mn mc,.string bt,.slice ea en ec,.string g0,.string g1,.string g2,.string g3,.string g4,.string g5,.string g6,.string g7,.string g8,.slice pa pn pc] 52 (0,0)) → ¬ (p7 < M'.heap.size ∧ M'.frz p7) → w.heap.size ≤ p7 → PC b0 c0 (.slice ma mn mc) (.string bt) (.slice ea en ec) (.slice pa pn pc) M' → rest.wp Tryz.prog QQ ac w') :
  Code.wp Tryz.prog (head1.seq (head2.seq (head3.seq (head4.seq rest)))) QQ { tmps := #[.agg #[.int .u8 k,.int .i8 s0,.int .i8 s1,.bool hf,ds,.int .i8 f0,.int .i8 f1,.int .i8 f2,.int .i8 f3,.int .i8 f4,.int .i8 f5,.int .i8 f6,.int .i8 f7,.int .i8 f8,.int .u8 sh,.int .i8 a,.int .i8 b],.agg #[.int .u8 kx,.int .u8 at_],.slice lb ln lc] ++ Array.replicate (140 - 3) undef,defers := [] } w := by
 have HQU := Lib.hid hq; clear hq
 have HC := Lib.hid hch; clear hch
 have HQ := Lib.hid hQ; clear hQ
 have W0 := Lib.hid (Went.refl hw); clear hw
 have K := Lib.hid hk; clear hk
 have F := Lib.hid hfit; clear hfit
 have h6 : ¬ (6 : Int) < (ln : Int) := by omega
 simp only [head1,head2,head3,head4,bodyS,sqA,sqB,Tryz.f3,Option.getD_some,List.size_toArray,List.length_cons,List.length_nil,Nat.reduceAdd,Nat.reduceSub,Array.replicate_succ,Array.replicate_zero,List.push_toArray,List.append_toArray,List.nil_append,List.cons_append]
 go_wp2_with fail
 refine Calls.mono (K.out _ ((W0.out.alloc _).alloc _).on) ?_
 rintro e w1 ⟨rfl,hgr,hsm⟩
 have W1 := Lib.hid (((W0.out.alloc _).alloc _).quiet hgr hsm)
 have hb := quiet_old hsm (two_0 _ _ _)
 have hs := quiet_old hsm (two_1 _ _ _)
 obtain ⟨c0,c1,c2,c3,c4,c5,c6,c7,c8,c9,c10,c11,c12,c13,c14,c15,c16⟩ := box17 hb
 have HB := Lib.hid hb; have HSL := Lib.hid hs; clear hb hs hgr hsm
 go_wp2_with fail
 refine Calls.mono (F.out _) ?_
 rintro e w2 ⟨rfl,hgr,hsm⟩
 have W2 := Lib.hid (W1.out.quiet hgr hsm)
 have hb := quiet_old hsm HB.out
 have hs := quiet_old hsm HSL.out
 clear c0 c1 c2 c3 c4 c5 c6 c7 c8 c9 c10 c11 c12 c13 c14 c15 c16
 obtain ⟨c0,c1,c2,c3,c4,c5,c6,c7,c8,c9,c10,c11,c12,c13,c14,c15,c16⟩ := box17 hb
 have HB2 := Lib.hid hb; have HSL2 := Lib.hid hs; clear hb hs hgr hsm
 go_wp2_with fail
 refine Calls.mono (HQU.out _ W2.out.on) ?_
 rintro e w3 ⟨y,M1,rfl,hgr,hsm,hh,hle,hz,b0,d0,b1,d1,sva,svn,svc,pa,pn,pc,rfl,hpq⟩
 have W3 := Lib.hid (W2.out.ret hgr hsm hh hle hz)
 have hs := quiet_old hsm HSL2.out
 have HSL3 := Lib.hid hs
 clear c0 c1 c2 c3 c4 c5 c6 c7 c8 c9 c10 c11 c12 c13 c14 c15 c16 hs hgr hsm hh hz hle
 have HPQ := Lib.hid hpq; clear hpq
 have hs3 : (w3.alloc (Obj.cells #[.slice (some ⟨b0,0,none⟩) np d0,.slice (some ⟨b1,0,none⟩) nt d1,.string ⟨#[98,97,115,101]⟩,.slice sva svn svc,.string g0,.string g1,.string g2,.string g3,.string g4,.string g5,.string g6,.string g7,.string g8,.slice pa pn pc] 52)).heap[w.heap.size + 1]? = _ := (same_alloc _ _ _ (Array.getElem?_eq_some_iff.1 HSL3.out).1).trans HSL3.out
 obtain ⟨u0,u1⟩ := box2 hs3
 clear hs3
 go_wp2_with fail
 refine Calls.mono (HC.out M1 b0 d0 b1 d1 _ _ _ W3.out.le (W3.out.alloc _).on HPQ.out) ?_
 rintro e w6 ⟨y,M3,rfl,gr6,fr6,hh6,le6,zz6,ma,mn,mc,bt,ea,en,ec,rfl,hpc⟩
 have W6 := Lib.hid ((W3.out.alloc _).ret gr6 fr6 hh6 le6 zz6)
 have own3 : ¬ (w3.heap.size < M1.heap.size ∧ M1.frz w3.heap.size) := W3.out.own (Nat.le_refl _)
 have own6 := own_ret (by rw [size_alloc]; omega) own3 zz6
 have hb6 := quiet_old fr6 (new_alloc _ _)
 obtain ⟨⟨d20,d21,d22,d23,d24,d25,d26,d27,d28,d29,d30,d31,d32,d33⟩,z0,z1,z2,z3,z4,z5,z6,z7,z8,z9,z10,z11,z12,z13⟩ := box14z hb6
 have HB6 := Lib.hid hb6
 have HPC := Lib.hid hpc
 have OWN := Lib.hid own6
 clear hb6 hpc own6 own3 gr6 fr6 hh6 le6 zz6 u0 u1
 go_wp2_with fail
 have f1 := setc_same w6 w3.heap.size 0 (.slice (some ⟨b0,0,none⟩) np d0) HB6.out
 have f2 := setc_same _ w3.heap.size 1 (.slice ma mn mc) f1
 have f3 := setc_same _ w3.heap.size 2 (.string bt) f2
 have f4 := setc_same _ w3.heap.size 3 (.slice ea en ec) f3
 have q7 : w.heap.size ≤ w3.heap.size := W3.out.lt
 exact HQ.out M3 b0 d0 ma mn mc bt ea en ec pa pn pc w3.heap.size _ _ ((((W6.out.set _ q7 OWN.out).set _ q7 OWN.out).set _ q7 OWN.out).set _ q7 OWN.out) rfl rfl rfl rfl f4 OWN.out q7 HPC.out
end
end Go.Proofs.YtdkafeammgaknaaGreatDoor
