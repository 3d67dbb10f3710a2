/-
  The closed call of the seat: its value, by the evaluator (made by a program).
-/
import Derived.Test.YtjcfejncjdhplaaGreatDoorEvMemo
import Derived.Test.YtjcfejncjdhplaaGreatDoorEvTab
import Derived.Test.YtjcfejncjdhplaaGreatDoorShelf
set_option linter.unusedSectionVars false
set_option linter.unusedVariables false
set_option linter.unusedSimpArgs false
namespace Go.Proofs.YtjcfejncjdhplaaGreatDoor.Ab
open Go Ev
def q {α : Type} (b : T α) : T α := .n .e none b
def p {α : Type} (a : T α) : T α := .n a none .e
def m {α : Type} (a b : T α) : T α := .n a none b
def l {α : Type} (x : α) : T α := .n .e (some x) .e
def a {α : Type} (x : α) (b : T α) : T α := .n .e (some x) b
def b {α : Type} (a : T α) (x : α) : T α := .n a (some x) .e
def c {α : Type} (a : T α) (x : α) (b : T α) : T α := .n a (some x) b
def y (e n : Nat) : V := .sym (256 * e + n)
def r (e i j k : Nat) : List V × V := ([y e i, y e j], y e k)
def o (e i j : Nat) : List V × V := ([y e i], y e j)
def z (e i : Nat) : List V × V := ([y e i], .int .i64 0)
def g (x : Int) : V := .int .i64 x
def d (x : UInt8) : V := .str [x]
def s (a b c d : Nat) : V := .slice a b c d
def C (x : List V) (e u : Nat) : O := .cells x e u false
def t (f a b c d e h : Nat) (x : Int) (made : Nat) : Nat × RM := (f, ⟨[.agg [.sym a, .sym b], .agg [.sym c, .sym d], .agg [.sym e, .sym h]], [], .int .i64 x, [], made⟩)
def u (a b : Nat) : V := .agg [.sym a, .sym b]
def w (a b : Int) : V := .agg [.int .i64 a, .int .i64 b]
end Go.Proofs.YtjcfejncjdhplaaGreatDoor.Ab
namespace Go.Proofs.YtjcfejncjdhplaaGreatDoor
open Go.RowKit Go Ev
def joinRM (l : List (List UInt8)) (r : List UInt8) : RM := ⟨[.slice 64 0 l.length (2 * l.length), .str [32]], [.cells (l.map .str) 9 0 false], .str r, [], 0⟩
theorem strsJ {E : Env} : ∀ l : List (List UInt8), VRL E (l.map .str) (l.map fun b => Value.string ⟨b.toArray⟩)
  | [] => rfl
  | x :: l => VRL.cons rfl (strsJ l)
theorem join_rm {w0 : Base} (l : List (List UInt8)) (r : List UInt8) (hl : l.length ≤ 100) (hr : Lib.join l [32] = r) (hlen : r.length ≤ 1000) : RmOk Tryz.prog w0 27 (joinRM l r) := by
  intro E w xs ho hx
  obtain ⟨y0, r0, rfl, ⟨i, hi, rfl⟩, y1, r1, rfl, hy1, hn⟩ := hx
  have e1 : y1 = .string ⟨#[32]⟩ := hy1
  subst e1
  rw [show r1 = [] from hn]
  have hg : (T.ofList .e 64 (joinRM l r).sub : T O).get 64 = some (.cells (l.map .str) 9 0 false) := by
    rw [T.get_ofList]; rfl
  obtain ⟨i', hi', hu, rc, fr, f1, f2, f3, zs, rest, hzs, hrc⟩ := ho.rel.obj _ _ hg
  rw [hi] at hi'; cases hi'
  have hz : zs = l.map fun b => Value.string ⟨b.toArray⟩ := VRL.det _ _ _ hzs (strsJ l)
  subst hz
  have hc : capOf i 0 (2 * l.length) = l.length := by unfold capOf; rw [if_pos (by omega)]; omega
  have hd : ((l.map fun b => (⟨b.toArray⟩ : ByteArray)).map fun b => b.data.toList) = l := by
    rw [List.map_map]
    conv => rhs; rw [← List.map_id l]
    exact List.map_congr_left fun b _ => by simp
  have h := Tryz.strings_Join i.blk 0 l.length (l.map fun b => ⟨b.toArray⟩) ⟨#[32]⟩ w (fun j x hj => by
    have hj' : l.length ≤ rc.size := by rw [← Array.length_toList, hrc]; simp
    have hjl : j < l.length := by
      have := (List.getElem?_eq_some_iff.1 hj).1
      simpa using this
    rw [List.getElem?_map, List.getElem?_eq_getElem hjl, Option.map_some] at hj
    cases hj
    unfold World.cell?
    simp only [f1, Nat.zero_add]
    rw [← Array.getElem?_toList, hrc, List.getElem?_append_left (by simpa using hjl), List.getElem?_map, List.getElem?_eq_getElem hjl]; rfl)
    (Array.getElem?_eq_some_iff.1 f1).1 (by simp; omega) (by simp) (by rw [hd]; show (Lib.join l [32]).length ≤ _; rw [hr]; omega)
  rw [hd, List.length_map] at h
  rw [hc]
  refine Calls.mono h ?_
  rintro e w' ⟨rfl, hb⟩
  refine ⟨_, rfl, E, _, ?_, Step.quiet ho.rel ho.fresh ⟨hb.tape, hb.os, hb.output, hb.size⟩ hb.block, fun p hp => by cases hp⟩
  show Value.string _ = .string ⟨r.toArray⟩
  rw [← hr]
def joins : List RM := [joinRM [[48], [49, 47, 52], [98, 97, 115, 101]] [48, 32, 49, 47, 52, 32, 98, 97, 115, 101], joinRM [[49, 47, 52], [49, 47, 50], [114, 111, 99, 107]] [49, 47, 52, 32, 49, 47, 50, 32, 114, 111, 99, 107],
  joinRM [[49, 47, 50], [49], [98, 97, 115, 101]] [49, 47, 50, 32, 49, 32, 98, 97, 115, 101], joinRM [[100], [49]] [100, 32, 49]]
noncomputable def tbJ : Tab := { tb0 with rm := fun f => cond (Nat.beq f 27) (some joins) none }
theorem tabOkJ : TabOk tbJ Tryz.prog := ⟨tabOk.fn, tabOk.und, tabOk.inf, tabOk.guard, tabOk.held⟩
theorem fnOkJ {w0 : Base} (h : FnOk tb0 Tryz.prog w0) : FnOk tbJ Tryz.prog w0 := by
  refine ⟨h.mixed, fun E hE => ⟨(h.syms E hE).eqs, (h.syms E hE).eqi, (h.syms E hE).bin, (h.syms E hE).conv, (h.syms E hE).key, (h.syms E hE).len, (h.syms E hE).cut, (h.syms E hE).adr⟩, h.glob, h.ld, h.enter, h.ext, h.prim, fun f es hes => ?_⟩
  replace hes : cond (Nat.beq f 27) (some joins) none = some es := hes
  cases hb : Nat.beq f 27 with
  | false => rw [hb] at hes; cases hes
  | true =>
    rw [hb] at hes
    have hf := nbeq_true hb
    subst hf
    cases hes
    intro e he
    simp only [joins, List.mem_cons, List.not_mem_nil, or_false] at he
    rcases he with rfl | rfl | rfl | rfl
    · exact join_rm _ _ (by decide) rfl (by decide)
    · exact join_rm _ _ (by decide) rfl (by decide)
    · exact join_rm _ _ (by decide) rfl (by decide)
    · exact join_rm _ _ (by decide) rfl (by decide)
end Go.Proofs.YtjcfejncjdhplaaGreatDoor
namespace Go.Proofs.YtjcfejncjdhplaaGreatDoor
open Go Ev Ab
set_option maxRecDepth 100000
def P26_1 : List (List V × V) := [([.str [114, 111, 99, 107]], .str [114, 111, 99, 107]), ([.str [98, 97, 115, 101]], .str [98, 97, 115, 101])]
def P29_1 : List (List V × V) := [([.str [114, 111, 99, 107]], .bool true)]
def P30_1 : List (List V × V) := [([d 48], g 0)]
def P39_1 : List (List V × V) := [([g 0], d 48), ([g 1], d 49), ([g 2], d 50), ([g 3], d 51), ([g 4], d 52)]
def P69_1 : List (List V × V) := [([d 48, d 48], g 0), ([.str [49, 47, 52], .str [49, 47, 52]], g 0), ([d 49, d 49], g 0), ([d 50, d 50], g 0)]
def P78_1 : List (List V × V) := [([.str [78, 32, 78, 32, 78], d 32], g 1), ([.str [78, 32, 78], d 32], g 1), ([.str [97, 116, 32, 78, 32, 78], d 32], g 2)]
def P85_1 : List (List V × V) := [([d 48, .str [45, 49, 54]], .str [49, 54])]
def P109_1 : List (List V × V) := [([d 50, g 18], .tup [g 2, .bool true]), ([d 51, g 18], .tup [g 3, .bool true]), ([d 52, g 18], .tup [g 4, .bool true])]
def P122_1 : List (List V × V) := [([.str [45, 49, 50]], .tup [g (-12), g 1, .bool true]), ([.str [45, 49, 54]], .tup [g (-16), g 1, .bool true]), ([.str [45, 49]], .tup [g (-1), g 1, .bool true]), ([.str [45, 50]], .tup [g (-2), g 1, .bool true]), ([.str [45, 51]], .tup [g (-3), g 1, .bool true]), ([.str [45, 52]], .tup [g (-4), g 1, .bool true]), ([d 48], .tup [g 0, g 1, .bool true]), ([.str [49, 47, 49, 54]], .tup [g 1, g 16, .bool true]), ([.str [49, 47, 50]], .tup [g 1, g 2, .bool true]), ([.str [49, 47, 51]], .tup [g 1, g 3, .bool true]), ([.str [49, 47, 52]], .tup [g 1, g 4, .bool true]), ([.str [49, 50]], .tup [g 12, g 1, .bool true]), ([.str [49, 54]], .tup [g 16, g 1, .bool true]), ([d 49], .tup [g 1, g 1, .bool true]), ([d 50], .tup [g 2, g 1, .bool true]), ([.str [51, 47, 52]], .tup [g 3, g 4, .bool true]), ([d 51], .tup [g 3, g 1, .bool true]), ([d 52], .tup [g 4, g 1, .bool true])]
def P123_1 : List (List V × V) := [([.str [45, 49, 54]], .tup [.str [45, 49, 54], d 49]), ([.str [49, 54]], .tup [.str [49, 54], d 49])]
def P142_1 : List (List V × V) := [([d 48, d 48], d 48), ([d 48, .str [49, 47, 50]], .str [49, 47, 50]), ([d 48, d 49], d 49), ([d 48, d 50], d 50), ([d 48, d 52], d 52), ([.str [49, 47, 50], d 48], .str [49, 47, 50]), ([.str [49, 47, 52], d 48], .str [49, 47, 52]), ([d 49, d 48], d 49), ([d 50, d 48], d 50), ([.str [51, 47, 50], d 48], .str [51, 47, 50]), ([d 51, d 48], d 51), ([d 52, d 48], d 52)]
def P143_1 : List (List V × V) := [([.str [45, 49, 50]], .str [49, 50]), ([d 48], d 48), ([.str [49, 50]], .str [45, 49, 50]), ([.str [49, 54]], .str [45, 49, 54]), ([d 49], .str [45, 49]), ([d 50], .str [45, 50]), ([d 52], .str [45, 52])]
def P149_1 : List (List V × V) := [([.str [45, 52], d 48], d 48), ([d 48, .str [45, 51]], d 48), ([d 48, .str [45, 52]], d 48), ([d 48, d 48], d 48), ([d 48, d 49], d 48), ([d 48, d 50], d 48), ([d 48, d 51], d 48), ([d 48, d 52], d 48), ([.str [49, 47, 49, 54], d 48], d 48), ([.str [49, 47, 50], d 48], d 48), ([.str [49, 47, 50], d 49], .str [49, 47, 50]), ([.str [49, 47, 51], d 48], d 48), ([.str [49, 47, 52], d 48], d 48), ([d 49, d 48], d 48), ([d 49, d 49], d 49), ([d 49, d 50], d 50), ([d 49, .str [51, 47, 50]], .str [51, 47, 50]), ([d 49, d 51], d 51), ([d 49, d 52], d 52), ([d 52, d 48], d 48), ([d 52, d 49], d 52)]
def P176_1 : List (List V × V) := [([d 48], .tup [g 0, .nili]), ([d 49], .tup [g 1, .nili])]
def P192_1 : List (List V × V) := [([.agg [g 4, d 100, .nils, .nils, .nils, .str [], .str [], .str [], .str [], .str [], .str [], .str [], .str [], .str [], .str [], .nils, .str [], .str [], .str [], d 49, d 48, d 48, d 49, d 49, .str [114, 111, 99, 107], g 0, g 0, g 0, g 0, .str [], .str [], .str []]], .agg [.fn 341 [] [], .fn 342 [] [], .fn 343 [] [], .fn 344 [] [], .fn 345 [] []])]
def P201_1 : List (List V × V) := [([.str [45, 49]], g (-1)), ([d 48], g 0), ([.str [49, 47, 50]], g 1), ([.str [49, 50]], g 1), ([.str [49, 54]], g 1), ([d 49], g 1), ([d 50], g 1), ([d 52], g 1)]
def P215_1 : List (List V × V) := [([g 12, g 1], .str [49, 50]), ([g 16, g 1], .str [49, 54])]
def P242_1 : List (List V × V) := [([d 49, d 45], .bool false), ([d 50, d 45], .bool false), ([d 51, d 45], .bool false), ([d 52, d 45], .bool false)]
def P267_1 : List (List V × V) := [([g 4], g 1)]
def P268_1 : List (List V × V) := [([.int .u64 (3)], g 2), ([.int .u64 (4)], g 3)]
def P269_1 : List (List V × V) := [([.bool true], g 1)]
def P274_1 : List (List V × V) := [([.str [45, 49, 54]], .str [49, 54])]
def P276_1 : List (List V × V) := [([.str [45, 49], .str [49, 54]], .str [45, 49, 47, 49, 54]), ([d 49, .str [49, 54]], .str [49, 47, 49, 54])]
def P343_1 : List (List V × V) := [([.agg [g 4, d 100, .nils, .nils, .nils, .str [], .str [], .str [], .str [], .str [], .str [], .str [], .str [], .str [], .str [], .nils, .str [], .str [], .str [], d 49, d 48, d 48, d 49, d 49, .str [114, 111, 99, 107], g 0, g 0, g 0, g 0, .str [], .str [], .str []]], g 2)]
def P429_1 : List (List V × V) := [([.nils], .nils)]
def P484_1 : List (List V × V) := [([.agg [d 49, d 48, d 48]], .bool false)]
def P496_1 : List (List V × V) := [([.agg [d 49, d 48, d 48, d 48, d 49, d 48, d 48, d 48, d 49, d 48, d 48, d 48]], .agg [d 49, d 48, d 48, d 48, d 49, d 48, d 48, d 48, d 49])]
def P498_1 : List (List V × V) := [([.agg [d 48, d 48, d 48]], .agg [d 48, d 48, d 48])]
def kL1 : Memo := [(26, P26_1), (29, P29_1), (30, P30_1), (39, P39_1), (69, P69_1), (78, P78_1), (85, P85_1), (109, P109_1), (122, P122_1), (123, P123_1), (142, P142_1), (143, P143_1), (149, P149_1), (176, P176_1), (192, P192_1), (201, P201_1), (215, P215_1), (242, P242_1), (267, P267_1), (268, P268_1), (269, P269_1), (274, P274_1), (276, P276_1), (343, P343_1), (429, P429_1), (484, P484_1), (496, P496_1), (498, P498_1)]
def kT1 : T (List (List V × V)) := (m (m (m (m (q (p (p (l P143_1)))) (m (l P39_1) (p (q (b (l P343_1) P215_1))))) (q (m (p (p (p (l P267_1)))) (q (l P123_1))))) (m (q (p (p (q (l P201_1))))) (m (m (p (l P69_1)) (p (b (l P149_1) P85_1))) (b (m (p (p (l P269_1))) (b (q (l P429_1)) P109_1)) P29_1)))) (m (m (p (m (p (q (l P192_1))) (q (m (l P176_1) (q (l P496_1)))))) (m (m (q (q (q (l P484_1)))) (p (p (p (l P276_1))))) (p (p (p (p (l P268_1))))))) (m (m (q (m (p (p (l P274_1))) (q (a P242_1 (l P498_1))))) (a P26_1 (q (l P122_1)))) (q (b (p (b (l P142_1) P78_1)) P30_1)))))
theorem kT1_eq : kT1 = mkMemo kL1 := by kernel_rfl
def N19_1 : List RM := [⟨[], [], s 70 0 11 22, [(70, C [.str [117, 110, 105, 116, 32, 97, 116, 32, 78, 32, 78, 32, 78], .fn 41 [] [], .nils, .str [111, 117, 116, 99, 114, 111, 112, 32, 97, 116, 32, 78, 32, 78], .fn 42 [] [], s 64 0 1 2, .str [104, 101, 105, 103, 104, 116, 32, 97, 116, 32, 78, 32, 78], .fn 43 [] [], s 65 0 1 2, .str [100, 101, 112, 116, 104, 32, 111, 102, 32, 85, 32, 97, 116, 32, 78, 32, 78], .fn 44 [] [], s 66 0 1 2, .str [108, 111, 103, 32, 97, 116, 32, 78, 32, 78], .fn 45 [] [], s 67 0 1 2, .str [99, 114, 111, 115, 115, 105, 110, 103, 115, 32, 102, 114, 111, 109, 32, 78, 32, 78, 32, 78, 32, 116, 111, 32, 78, 32, 78, 32, 78], .fn 46 [] [], .nils, .str [116, 114, 97, 99, 101, 32, 102, 114, 111, 109, 32, 78, 32, 78, 32, 116, 111, 32, 78, 32, 78], .fn 47 [] [], s 68 0 2 4, .str [118, 111, 108, 117, 109, 101, 32, 111, 102, 32, 85], .fn 48 [] [], .nils, .str [115, 101, 99, 116, 105, 111, 110, 32, 111, 102, 32, 85, 32, 102, 114, 111, 109, 32, 78, 32, 78, 32, 116, 111, 32, 78, 32, 78], .fn 49 [] [], s 69 0 2 4, .str [121, 111, 117, 110, 103, 101, 114, 32, 85, 32, 116, 104, 97, 110, 32, 85], .fn 50 [] [], .nils, .str [117, 110, 105, 116, 115], .fn 51 [] [], .nils] 62 0), (64, C [g 0] 3 0), (65, C [g 0] 3 0), (66, C [g 0] 3 0), (67, C [g 0] 3 0), (68, C [g 0, g 2] 3 0), (69, C [g 0, g 2] 3 0)], 7⟩]
def N82_1 : List RM := [⟨[.agg [g 4, s 64 0 1 3, s 65 0 2 5], g 0], [C [.str [114, 111, 99, 107]] 9 1, C [d 49, d 49] 46 1], .agg [d 49, d 49], [(64, C [.str [114, 111, 99, 107]] 9 1), (65, C [d 49, d 49] 46 1)], 2⟩, ⟨[.agg [g 4, s 64 0 1 3, s 65 0 2 5], g 0], [C [.str [114, 111, 99, 107]] 9 1, C [d 51, d 49] 46 1], .agg [d 51, d 49], [(64, C [.str [114, 111, 99, 107]] 9 1), (65, C [d 51, d 49] 46 1)], 2⟩, ⟨[.agg [g 7, .nils, s 64 0 4 9], g 0], [C [d 48, d 49, d 52, d 49] 46 1], .agg [d 48, d 49], [(64, C [d 48, d 49, d 52, d 49] 46 1)], 2⟩, ⟨[.agg [g 7, .nils, s 64 0 4 9], g 2], [C [d 48, d 49, d 52, d 49] 46 1], .agg [d 52, d 49], [(64, C [d 48, d 49, d 52, d 49] 46 1)], 2⟩]
def N119_1 : List RM := [⟨[.agg [g 4, d 100, .nils, .nils, .nils, .str [], .str [], .str [], .str [], .str [], .str [], .str [], .str [], .str [], .str [], .nils, .str [], .str [], .str [], d 49, d 48, d 48, d 49, d 49, .str [114, 111, 99, 107], g 0, g 0, g 0, g 0, .str [], .str [], .str []]], [], s 65 0 1 2, [(65, C [.str [114, 111, 99, 107]] 9 0)], 2⟩]
def N160_1 : List RM := [⟨[s 64 0 2 5, .str [114, 111, 99, 107]], [C [.str [98, 97, 115, 101], .str [114, 111, 99, 107]] 9 1], g 1, [(64, C [.str [98, 97, 115, 101], .str [114, 111, 99, 107]] 9 1)], 0⟩]
def N253_1 : List RM := [⟨[.agg [s 64 0 4 9, s 65 0 2 4], g 0], [C [d 48, d 48, d 52, d 48, d 52, d 52, d 48, d 52] 129 2, C [g 0, g 1, g 2, g 0, g 2, g 3] 198 0], .agg [d 48, d 48, d 52, d 48, d 52, d 52], [(64, C [d 48, d 48, d 52, d 48, d 52, d 52, d 48, d 52] 129 2), (65, C [g 0, g 1, g 2, g 0, g 2, g 3] 198 0)], 3⟩, ⟨[.agg [s 64 0 4 9, s 65 0 2 4], g 1], [C [d 48, d 48, d 52, d 48, d 52, d 52, d 48, d 52] 129 2, C [g 0, g 1, g 2, g 0, g 2, g 3] 198 0], .agg [d 48, d 48, d 52, d 52, d 48, d 52], [(64, C [d 48, d 48, d 52, d 48, d 52, d 52, d 48, d 52] 129 2), (65, C [g 0, g 1, g 2, g 0, g 2, g 3] 198 0)], 3⟩]
def N322_1 : List RM := [⟨[g 0, .ptr 64 0, .ptr 67 0, .ptr 69 0], [C [s 65 0 4 9, s 66 0 2 4] 41 0, C [d 48, d 48, d 52, d 48, d 52, d 52, d 48, d 52] 129 2, C [g 0, g 1, g 2, g 0, g 2, g 3] 198 0, C [s 68 0 4 9] 60 0, C [g 0, g 1, g 2, g 3] 3 1, C [g 4] 3 0], .agg [d 48, d 48], [(64, C [s 65 0 4 9, s 66 0 2 4] 41 0), (65, C [d 48, d 48, d 52, d 48, d 52, d 52, d 48, d 52] 129 2), (66, C [g 0, g 1, g 2, g 0, g 2, g 3] 198 0), (67, C [s 68 0 4 9] 60 0), (68, C [g 0, g 1, g 2, g 3] 3 1), (69, C [g 4] 3 0)], 1⟩, ⟨[g 1, .ptr 64 0, .ptr 67 0, .ptr 69 0], [C [s 65 0 4 9, s 66 0 2 4] 41 0, C [d 48, d 48, d 52, d 48, d 52, d 52, d 48, d 52] 129 2, C [g 0, g 1, g 2, g 0, g 2, g 3] 198 0, C [s 68 0 4 9] 60 0, C [g 0, g 1, g 2, g 3] 3 1, C [g 4] 3 0], .agg [d 52, d 48], [(64, C [s 65 0 4 9, s 66 0 2 4] 41 0), (65, C [d 48, d 48, d 52, d 48, d 52, d 52, d 48, d 52] 129 2), (66, C [g 0, g 1, g 2, g 0, g 2, g 3] 198 0), (67, C [s 68 0 4 9] 60 0), (68, C [g 0, g 1, g 2, g 3] 3 1), (69, C [g 4] 3 0)], 1⟩, ⟨[g 2, .ptr 64 0, .ptr 67 0, .ptr 69 0], [C [s 65 0 4 9, s 66 0 2 4] 41 0, C [d 48, d 48, d 52, d 48, d 52, d 52, d 48, d 52] 129 2, C [g 0, g 1, g 2, g 0, g 2, g 3] 198 0, C [s 68 0 4 9] 60 0, C [g 0, g 1, g 2, g 3] 3 1, C [g 4] 3 0], .agg [d 52, d 52], [(64, C [s 65 0 4 9, s 66 0 2 4] 41 0), (65, C [d 48, d 48, d 52, d 48, d 52, d 52, d 48, d 52] 129 2), (66, C [g 0, g 1, g 2, g 0, g 2, g 3] 198 0), (67, C [s 68 0 4 9] 60 0), (68, C [g 0, g 1, g 2, g 3] 3 1), (69, C [g 4] 3 0)], 1⟩, ⟨[g 3, .ptr 64 0, .ptr 67 0, .ptr 69 0], [C [s 65 0 4 9, s 66 0 2 4] 41 0, C [d 48, d 48, d 52, d 48, d 52, d 52, d 48, d 52] 129 2, C [g 0, g 1, g 2, g 0, g 2, g 3] 198 0, C [s 68 0 4 9] 60 0, C [g 0, g 1, g 2, g 3] 3 1, C [g 4] 3 0], .agg [d 48, d 52], [(64, C [s 65 0 4 9, s 66 0 2 4] 41 0), (65, C [d 48, d 48, d 52, d 48, d 52, d 52, d 48, d 52] 129 2), (66, C [g 0, g 1, g 2, g 0, g 2, g 3] 198 0), (67, C [s 68 0 4 9] 60 0), (68, C [g 0, g 1, g 2, g 3] 3 1), (69, C [g 4] 3 0)], 1⟩, ⟨[g 4, .ptr 64 0, .ptr 67 0, .ptr 69 0], [C [s 65 0 4 9, s 66 0 2 4] 41 0, C [d 48, d 48, d 52, d 48, d 52, d 52, d 48, d 52] 129 2, C [g 0, g 1, g 2, g 0, g 2, g 3] 198 0, C [s 68 0 4 9] 60 0, C [g 0, g 1, g 2, g 3] 3 1, C [g 4] 3 0], .agg [d 48, d 48], [(64, C [s 65 0 4 9, s 66 0 2 4] 41 0), (65, C [d 48, d 48, d 52, d 48, d 52, d 52, d 48, d 52] 129 2), (66, C [g 0, g 1, g 2, g 0, g 2, g 3] 198 0), (67, C [s 68 0 4 9] 60 0), (68, C [g 0, g 1, g 2, g 3] 3 1), (69, C [g 4] 3 0)], 1⟩, ⟨[g 5, .ptr 64 0, .ptr 67 0, .ptr 69 0], [C [s 65 0 4 9, s 66 0 2 4] 41 0, C [d 48, d 48, d 52, d 48, d 52, d 52, d 48, d 52] 129 2, C [g 0, g 1, g 2, g 0, g 2, g 3] 198 0, C [s 68 0 4 9] 60 0, C [g 0, g 1, g 2, g 3] 3 1, C [g 4] 3 0], .agg [d 52, d 48], [(64, C [s 65 0 4 9, s 66 0 2 4] 41 0), (65, C [d 48, d 48, d 52, d 48, d 52, d 52, d 48, d 52] 129 2), (66, C [g 0, g 1, g 2, g 0, g 2, g 3] 198 0), (67, C [s 68 0 4 9] 60 0), (68, C [g 0, g 1, g 2, g 3] 3 1), (69, C [g 4] 3 0)], 1⟩]
def N366_1 : List RM := [⟨[s 64 0 2 4], [C [d 48, d 49] 46 0], s 64 0 2 4, [(64, C [d 48, d 49] 46 0)], 0⟩]
def N429_1 : List RM := [⟨[s 64 0 1 3], [C [g 1] 3 1], s 66 0 1 3, [(66, C [g 1] 3 1), (64, C [g 1] 3 1)], 2⟩, ⟨[s 64 0 1 3], [C [g 2] 3 1], s 66 0 1 3, [(66, C [g 2] 3 1), (64, C [g 2] 3 1)], 2⟩]
def kM1 : Kept := [(19, N19_1), (82, N82_1), (119, N119_1), (160, N160_1), (253, N253_1), (322, N322_1), (366, N366_1), (429, N429_1)]
def kU1 : T (List RM) := (m (m (m (q (q (q (l N119_1)))) (p (l N19_1))) (q (q (m (q (p (q (l N429_1)))) (q (q (l N253_1))))))) (m (p (p (p (q (p (l N160_1)))))) (m (p (m (p (q (p (l N322_1)))) (p (l N82_1)))) (q (p (q (q (p (l N366_1)))))))))
theorem kU1_eq : kU1 = mkKept kM1 := by kernel_rfl
theorem kP1 : chk tbJ 10000 60 kL1 = true := by kernel_rfl
theorem kN1 : chkRs tbJ 10000 60 kM1 = true := by kernel_rfl
noncomputable def kb1 : Tab := tbJ.over kT1 kU1
theorem kO1 : TabOk kb1 Tryz.prog := TabOk.over tabOkJ kT1 kU1
theorem kF1 {w0 : Base} (hF : FnOk tb0 Tryz.prog w0) : FnOk kb1 Tryz.prog w0 := FnOk.over tabOkJ (fnOkJ hF) kT1_eq kP1 kU1_eq kN1
def P39_2 : List (List V × V) := [([g (-1)], .str [45, 49])]
def P61_2 : List (List V × V) := [([d 49], g 0), ([d 50], g 0), ([d 51], g 0), ([d 52], g 0)]
def P69_2 : List (List V × V) := [([d 48, .str [49, 47, 52]], g (-1)), ([d 48, d 49], g (-1)), ([d 48, d 50], g (-1)), ([d 48, d 52], g (-1)), ([.str [49, 47, 50], d 49], g (-1)), ([.str [49, 47, 52], d 48], g 1), ([.str [49, 47, 52], d 49], g (-1)), ([d 49, d 48], g 1), ([d 50, d 49], g 1), ([d 52, d 48], g 1)]
def P85_2 : List (List V × V) := [([d 48, .str [45, 52]], d 52), ([d 48, d 48], d 48), ([d 48, d 50], .str [45, 50]), ([d 48, d 52], .str [45, 52]), ([.str [49, 50], d 48], .str [49, 50]), ([.str [49, 54], d 48], .str [49, 54]), ([d 49, d 48], d 49), ([d 50, d 48], d 50), ([.str [51, 47, 50], d 49], .str [49, 47, 50]), ([d 51, d 48], d 51), ([d 52, d 48], d 52)]
def P106_2 : List (List V × V) := [([d 49], g 1)]
def P107_2 : List (List V × V) := [([d 49, d 45], d 49)]
def P109_2 : List (List V × V) := [([d 49, g 18], .tup [g 1, .bool true])]
def P110_2 : List (List V × V) := [([g 1], d 49)]
def P116_2 : List (List V × V) := [([g 1], d 49)]
def P142_2 : List (List V × V) := [([.str [49, 47, 52], .str [49, 47, 52]], .str [49, 47, 50])]
def P149_2 : List (List V × V) := [([.str [45, 52], .str [45, 51]], .str [49, 50]), ([.str [45, 52], .str [45, 52]], .str [49, 54]), ([.str [49, 47, 51], .str [51, 47, 52]], .str [49, 47, 52]), ([.str [49, 47, 52], d 52], d 49), ([d 52, d 52], .str [49, 54])]
def P215_2 : List (List V × V) := [([g (-12), g 1], .str [45, 49, 50]), ([g (-16), g 1], .str [45, 49, 54]), ([g (-3), g 1], .str [45, 51]), ([g (-4), g 1], .str [45, 52]), ([g 0, g 1], d 48), ([g 1, g 1], d 49), ([g 16, g 16], d 49), ([g 2, g 1], d 50), ([g 3, g 1], d 51), ([g 4, g 1], d 52), ([g 4, g 16], .str [49, 47, 52])]
def P264_2 : List (List V × V) := [([d 49, .str [49, 54]], .tup [.str [49, 47, 49, 54], g 0])]
def kL2 : Memo := [(39, P39_2), (61, P61_2), (69, P69_2), (85, P85_2), (106, P106_2), (107, P107_2), (109, P109_2), (110, P110_2), (116, P116_2), (142, P142_2), (149, P149_2), (215, P215_2), (264, P264_2)]
def kT2 : T (List (List V × V)) := (m (m (m (q (m (l P39_2) (p (q (l P215_2))))) (q (p (q (l P107_2))))) (q (m (m (p (l P69_2)) (p (b (l P149_2) P85_2))) (m (q (l P109_2)) (l P61_2))))) (m (m (q (p (p (p (p (l P264_2)))))) (p (q (q (l P116_2))))) (m (q (p (q (l P106_2)))) (q (p (m (p (l P142_2)) (l P110_2)))))))
theorem kT2_eq : kT2 = mkMemo kL2 := by kernel_rfl
def N18_2 : List RM := [⟨[.str [100, 101, 112, 116, 104, 32, 111, 102, 32, 85, 32, 97, 116, 32, 78, 32, 78], d 32], [], s 64 0 6 12, [(64, C [.str [100, 101, 112, 116, 104], .str [111, 102], d 85, .str [97, 116], d 78, d 78] 9 0)], 1⟩, ⟨[.str [104, 101, 105, 103, 104, 116, 32, 97, 116, 32, 78, 32, 78], d 32], [], s 64 0 4 8, [(64, C [.str [104, 101, 105, 103, 104, 116], .str [97, 116], d 78, d 78] 9 0)], 1⟩, ⟨[.str [111, 117, 116, 99, 114, 111, 112, 32, 97, 116, 32, 78, 32, 78], d 32], [], s 64 0 4 8, [(64, C [.str [111, 117, 116, 99, 114, 111, 112], .str [97, 116], d 78, d 78] 9 0)], 1⟩, ⟨[.str [116, 114, 97, 99, 101, 32, 102, 114, 111, 109, 32, 78, 32, 78, 32, 116, 111, 32, 78, 32, 78], d 32], [], s 64 0 7 14, [(64, C [.str [116, 114, 97, 99, 101], .str [102, 114, 111, 109], d 78, d 78, .str [116, 111], d 78, d 78] 9 0)], 1⟩, ⟨[.str [117, 110, 105, 116, 32, 97, 116, 32, 78, 32, 78, 32, 78], d 32], [], s 64 0 5 10, [(64, C [.str [117, 110, 105, 116], .str [97, 116], d 78, d 78, d 78] 9 0)], 1⟩]
def N161_2 : List RM := [⟨[.agg [s 64 0 4 9, s 65 0 2 4, .str [98, 97, 115, 101], s 66 0 1 2]], [C [d 48, d 48, d 52, d 48, d 52, d 52, d 48, d 52] 129 2, C [g 0, g 1, g 2, g 0, g 2, g 3] 198 0, C [g 4, d 100, .nils, .nils, .nils, .str [], .str [], .str [], .str [], .str [], .str [], .str [], .str [], .str [], .str [], .nils, .str [], .str [], .str [], d 49, d 48, d 48, d 49, d 49, .str [114, 111, 99, 107], g 0, g 0, g 0, g 0, .str [], .str [], .str []] 96 0], s 72 0 2 5, [(72, C [.str [98, 97, 115, 101], .str [114, 111, 99, 107]] 9 1), (64, C [d 48, d 48, d 52, d 48, d 52, d 52, d 48, d 52] 129 2), (65, C [g 0, g 1, g 2, g 0, g 2, g 3] 198 0), (66, C [g 4, d 100, .nils, .nils, .nils, .str [], .str [], .str [], .str [], .str [], .str [], .str [], .str [], .str [], .str [], .nils, .str [], .str [], .str [], d 49, d 48, d 48, d 49, d 49, .str [114, 111, 99, 107], g 0, g 0, g 0, g 0, .str [], .str [], .str []] 96 0)], 6⟩]
def N222_2 : List RM := [⟨[s 64 0 3 6], [C [d 48, d 48, d 48] 46 0], d 48, [(64, C [d 48, d 48, d 48] 46 0)], 0⟩, ⟨[s 64 0 3 6], [C [d 48, d 48, d 50] 46 0], d 50, [(64, C [d 48, d 48, d 50] 46 0)], 0⟩, ⟨[s 64 0 3 6], [C [d 48, d 49, d 48] 46 0], d 49, [(64, C [d 48, d 49, d 48] 46 0)], 0⟩, ⟨[s 64 0 3 6], [C [d 49, d 48, d 48] 46 0], d 49, [(64, C [d 49, d 48, d 48] 46 0)], 0⟩, ⟨[s 64 0 3 6], [C [d 50, d 48, d 48] 46 0], d 50, [(64, C [d 50, d 48, d 48] 46 0)], 0⟩, ⟨[s 64 0 3 6], [C [.str [51, 47, 50], d 48, d 48] 46 0], .str [51, 47, 50], [(64, C [.str [51, 47, 50], d 48, d 48] 46 0)], 0⟩, ⟨[s 64 0 3 6], [C [d 51, d 48, d 48] 46 0], d 51, [(64, C [d 51, d 48, d 48] 46 0)], 0⟩, ⟨[s 64 0 3 6], [C [d 52, d 48, d 48] 46 0], d 52, [(64, C [d 52, d 48, d 48] 46 0)], 0⟩]
def kM2 : Kept := [(18, N18_2), (161, N161_2), (222, N222_2)]
def kU2 : T (List RM) := (m (q (p (p (p (q (p (l N161_2))))))) (q (m (p (l N18_2)) (q (q (p (q (l N222_2))))))))
theorem kU2_eq : kU2 = mkKept kM2 := by kernel_rfl
theorem kP2 : chk kb1 10000 60 kL2 = true := by kernel_rfl
theorem kN2 : chkRs kb1 10000 60 kM2 = true := by kernel_rfl
noncomputable def kb2 : Tab := kb1.over kT2 kU2
theorem kO2 : TabOk kb2 Tryz.prog := TabOk.over kO1 kT2 kU2
theorem kF2 {w0 : Base} (hF : FnOk tb0 Tryz.prog w0) : FnOk kb2 Tryz.prog w0 := FnOk.over kO1 (kF1 hF) kT2_eq kP2 kU2_eq kN2
def P30_3 : List (List V × V) := [([.str [49, 47, 52]], g 0), ([d 49], g 0), ([d 50], g 0), ([d 51], g 0), ([d 52], g 0)]
def P62_3 : List (List V × V) := [([d 50, d 49], g 1)]
def P66_3 : List (List V × V) := [([g 0, g 1], d 48)]
def P85_3 : List (List V × V) := [([.str [49, 50], .str [49, 50]], d 48), ([d 49, d 49], d 48), ([d 49, d 52], .str [45, 51]), ([d 51, d 49], d 50), ([d 51, d 50], d 49), ([d 51, d 51], d 48), ([d 52, d 49], d 51), ([d 52, d 50], d 50), ([d 52, d 52], d 48)]
def P114_3 : List (List V × V) := [([g 0, g 1], .tup [d 48, g 0]), ([g 4, g 1], .tup [d 52, g 0])]
def P142_3 : List (List V × V) := [([d 49, d 49], d 50), ([d 50, .str [45, 49]], d 49), ([d 50, .str [45, 50]], d 48)]
def P149_3 : List (List V × V) := [([.str [45, 52], d 52], .str [45, 49, 54]), ([d 52, .str [45, 52]], .str [45, 49, 54])]
def P188_3 : List (List V × V) := [([.agg [d 48, d 48], .agg [d 52, d 48], .agg [d 52, d 52]], g 1)]
def P215_3 : List (List V × V) := [([g (-1), g 1], .str [45, 49])]
def P249_3 : List (List V × V) := [([.agg [d 48, d 48], .agg [d 52, d 48], .agg [d 48, d 49]], d 52), ([.agg [d 48, d 48], .agg [d 52, d 48], .agg [d 52, d 49]], d 52), ([.agg [d 48, d 48], .agg [d 52, d 52], .agg [d 48, d 49]], d 52), ([.agg [d 48, d 48], .agg [d 52, d 52], .agg [d 52, d 49]], .str [45, 49, 50])]
def P274_3 : List (List V × V) := [([d 49], .str [45, 49])]
def P360_3 : List (List V × V) := [([d 48, d 49, d 48], d 48), ([d 48, d 49, .str [49, 47, 51]], .str [49, 47, 51]), ([d 48, d 49, d 49], d 49), ([d 50, d 48, d 48], d 50)]
def kL3 : Memo := [(30, P30_3), (62, P62_3), (66, P66_3), (85, P85_3), (114, P114_3), (142, P142_3), (149, P149_3), (188, P188_3), (215, P215_3), (249, P249_3), (274, P274_3), (360, P360_3)]
def kT3 : T (List (List V × V)) := (m (m (p (q (q (p (q (l P215_3)))))) (m (q (q (q (q (l P249_3))))) (p (q (p (b (l P149_3) P85_3)))))) (m (m (q (p (q (q (p (l P360_3)))))) (q (q (q (p (l P188_3)))))) (m (p (m (p (l P66_3)) (m (p (p (l P274_3))) (l P114_3)))) (q (c (p (p (l P142_3))) P30_3 (l P62_3))))))
theorem kT3_eq : kT3 = mkMemo kL3 := by kernel_rfl
def N28_3 : List RM := [⟨[.agg [.str [100, 101, 112, 116, 104, 32, 111, 102, 32, 85, 32, 97, 116, 32, 78, 32, 78], .fn 44 [] [], s 64 0 1 2], d 78], [C [g 0] 3 0], g 2, [(64, C [g 0] 3 0)], 2⟩, ⟨[.agg [.str [100, 101, 112, 116, 104, 32, 111, 102, 32, 85, 32, 97, 116, 32, 78, 32, 78], .fn 44 [] [], s 64 0 1 2], d 85], [C [g 0] 3 0], g 1, [(64, C [g 0] 3 0)], 2⟩]
def N74_3 : List RM := [⟨[.agg [s 64 0 4 9, s 65 0 2 4, .str [98, 97, 115, 101], s 66 0 1 2], .agg [.str [51, 47, 50], d 48, d 48]], [C [d 48, d 48, d 52, d 48, d 52, d 52, d 48, d 52] 129 2, C [g 0, g 1, g 2, g 0, g 2, g 3] 198 0, C [g 4, d 100, .nils, .nils, .nils, .str [], .str [], .str [], .str [], .str [], .str [], .str [], .str [], .str [], .str [], .nils, .str [], .str [], .str [], d 49, d 48, d 48, d 49, d 49, .str [114, 111, 99, 107], g 0, g 0, g 0, g 0, .str [], .str [], .str []] 96 0], .agg [.str [114, 111, 99, 107], s 82 0 1 3, g 0, .str [51, 47, 50], d 48, d 48], [(82, C [g 1] 3 1), (64, C [d 48, d 48, d 52, d 48, d 52, d 52, d 48, d 52] 129 2), (65, C [g 0, g 1, g 2, g 0, g 2, g 3] 198 0), (66, C [g 4, d 100, .nils, .nils, .nils, .str [], .str [], .str [], .str [], .str [], .str [], .str [], .str [], .str [], .str [], .nils, .str [], .str [], .str [], d 49, d 48, d 48, d 49, d 49, .str [114, 111, 99, 107], g 0, g 0, g 0, g 0, .str [], .str [], .str []] 96 0)], 17⟩]
def N323_3 : List RM := [⟨[g 3, .ptr 64 0], [C [.fn 322 [] [.ptr 65 0, .ptr 68 0, .ptr 70 0]] 458 0, C [s 66 0 4 9, s 67 0 2 4] 41 0, C [d 48, d 48, d 52, d 48, d 52, d 52, d 48, d 52] 129 2, C [g 0, g 1, g 2, g 0, g 2, g 3] 198 0, C [s 69 0 4 9] 60 0, C [g 0, g 1, g 2, g 3] 3 1, C [g 4] 3 0], .bool false, [(64, C [.fn 322 [] [.ptr 65 0, .ptr 68 0, .ptr 70 0]] 458 0), (65, C [s 66 0 4 9, s 67 0 2 4] 41 0), (66, C [d 48, d 48, d 52, d 48, d 52, d 52, d 48, d 52] 129 2), (67, C [g 0, g 1, g 2, g 0, g 2, g 3] 198 0), (68, C [s 69 0 4 9] 60 0), (69, C [g 0, g 1, g 2, g 3] 3 1), (70, C [g 4] 3 0)], 2⟩]
def N365_3 : List RM := [⟨[s 64 0 2 4, .fn 69 [] []], [C [d 48, d 49] 46 0], .tup [], [(64, C [d 48, d 49] 46 0)], 0⟩]
def kM3 : Kept := [(28, N28_3), (74, N74_3), (323, N323_3), (365, N365_3)]
def kU3 : T (List RM) := (m (m (q (p (p (p (q (p (l N323_3))))))) (q (q (p (q (q (p (l N365_3)))))))) (m (q (q (l N28_3))) (p (q (p (p (l N74_3)))))))
theorem kU3_eq : kU3 = mkKept kM3 := by kernel_rfl
theorem kP3 : chk kb2 10000 60 kL3 = true := by kernel_rfl
theorem kN3 : chkRs kb2 10000 60 kM3 = true := by kernel_rfl
noncomputable def kb3 : Tab := kb2.over kT3 kU3
theorem kO3 : TabOk kb3 Tryz.prog := TabOk.over kO2 kT3 kU3
theorem kF3 {w0 : Base} (hF : FnOk tb0 Tryz.prog w0) : FnOk kb3 Tryz.prog w0 := FnOk.over kO2 (kF2 hF) kT3_eq kP3 kU3_eq kN3
def P30_4 : List (List V × V) := [([.str [49, 47, 50]], g 0), ([.str [51, 47, 50]], g 0)]
def P36_4 : List (List V × V) := [([.agg [d 48, d 49, d 50]], g 0), ([.agg [d 49, d 49, d 50]], g 0), ([.agg [d 50, d 49, d 50]], g 0), ([.agg [d 51, d 49, d 48]], g 0), ([.agg [d 51, d 49, d 50]], g 0), ([.agg [d 52, d 49, d 50]], g 0)]
def P85_4 : List (List V × V) := [([d 49, d 50], .str [45, 49]), ([d 50, d 50], d 48), ([d 51, d 52], .str [45, 49])]
def P187_4 : List (List V × V) := [([.agg [d 48, d 49]], g 0), ([.agg [d 52, d 49]], g 0)]
def P213_4 : List (List V × V) := [([d 50], .tup [d 50, g 0])]
def P249_4 : List (List V × V) := [([.agg [d 48, d 52], .agg [d 48, d 48], .agg [d 48, d 49]], d 48), ([.agg [d 52, d 48], .agg [d 52, d 52], .agg [d 48, d 49]], .str [49, 54]), ([.agg [d 52, d 48], .agg [d 52, d 52], .agg [d 52, d 49]], d 48), ([.agg [d 52, d 52], .agg [d 48, d 48], .agg [d 48, d 49]], .str [45, 52]), ([.agg [d 52, d 52], .agg [d 48, d 48], .agg [d 52, d 49]], .str [49, 50]), ([.agg [d 52, d 52], .agg [d 48, d 52], .agg [d 48, d 49]], .str [49, 50])]
def P360_4 : List (List V × V) := [([d 49, d 49, d 48], d 49), ([d 49, d 49, .str [49, 47, 50]], d 49), ([d 49, d 49, d 49], d 49), ([d 50, d 48, .str [49, 47, 50]], d 49), ([d 50, d 48, d 49], d 48)]
def P423_4 : List (List V × V) := [([.agg [d 49, d 48, d 48, d 49]], g 0)]
def P432_4 : List (List V × V) := [([.agg [d 49, d 48, d 48, d 49], .agg [d 49, d 49, d 50]], d 48)]
def P462_4 : List (List V × V) := [([.agg [d 49, d 48, d 48, d 48, d 49, d 48, d 48, d 48, d 49, d 48, d 48, d 48]], g 0)]
def kL4 : Memo := [(30, P30_4), (36, P36_4), (85, P85_4), (187, P187_4), (213, P213_4), (249, P249_4), (360, P360_4), (423, P423_4), (432, P432_4), (462, P462_4)]
def kT4 : T (List (List V × V)) := (m (m (m (q (p (q (p (q (l P423_4)))))) (q (q (q (p (l P187_4)))))) (m (q (q (q (q (l P249_4))))) (p (q (p (a P85_4 (l P213_4))))))) (m (m (m (q (q (p (q (l P432_4))))) (p (q (q (p (l P360_4)))))) (p (p (l P36_4)))) (q (q (b (p (q (q (l P462_4)))) P30_4)))))
theorem kT4_eq : kT4 = mkMemo kL4 := by kernel_rfl
def N12_4 : List RM := [⟨[.agg [g 4, s 64 0 1 3, s 65 0 2 5]], [C [.str [114, 111, 99, 107]] 9 1, C [d 49, d 49] 46 1], g 0, [(64, C [.str [114, 111, 99, 107]] 9 1), (65, C [d 49, d 49] 46 1)], 13⟩, ⟨[.agg [g 4, s 64 0 1 3, s 65 0 2 5]], [C [.str [114, 111, 99, 107]] 9 1, C [d 51, d 49] 46 1], g 0, [(64, C [.str [114, 111, 99, 107]] 9 1), (65, C [d 51, d 49] 46 1)], 13⟩, ⟨[.agg [g 7, .nils, s 64 0 4 9]], [C [d 48, d 49, d 52, d 49] 46 1], g 0, [(64, C [d 48, d 49, d 52, d 49] 46 1)], 13⟩]
def N117_4 : List RM := [⟨[.agg [s 64 0 4 9, s 65 0 2 4]], [C [d 48, d 48, d 52, d 48, d 52, d 52, d 48, d 52] 129 2, C [g 0, g 1, g 2, g 0, g 2, g 3] 198 0], g 0, [(64, C [d 48, d 48, d 52, d 48, d 52, d 52, d 48, d 52] 129 2), (65, C [g 0, g 1, g 2, g 0, g 2, g 3] 198 0)], 116⟩]
def N157_4 : List RM := [⟨[.agg [s 64 0 4 9, s 65 0 2 4, .str [98, 97, 115, 101], s 66 0 1 2, s 67 0 4 8, d 48, d 49, d 52, d 49, d 48, d 50]], [C [d 48, d 48, d 52, d 48, d 52, d 52, d 48, d 52] 129 2, C [g 0, g 1, g 2, g 0, g 2, g 3] 198 0, C [g 4, d 100, .nils, .nils, .nils, .str [], .str [], .str [], .str [], .str [], .str [], .str [], .str [], .str [], .str [], .nils, .str [], .str [], .str [], d 49, d 48, d 48, d 49, d 49, .str [114, 111, 99, 107], g 0, g 0, g 0, g 0, .str [], .str [], .str []] 96 0, C [d 50, d 50, d 50, d 50] 46 0], .agg [d 48, d 49, d 48, d 52, d 48, d 48, d 48, d 48, d 49], [(64, C [d 48, d 48, d 52, d 48, d 52, d 52, d 48, d 52] 129 2), (65, C [g 0, g 1, g 2, g 0, g 2, g 3] 198 0), (66, C [g 4, d 100, .nils, .nils, .nils, .str [], .str [], .str [], .str [], .str [], .str [], .str [], .str [], .str [], .str [], .nils, .str [], .str [], .str [], d 49, d 48, d 48, d 49, d 49, .str [114, 111, 99, 107], g 0, g 0, g 0, g 0, .str [], .str [], .str []] 96 0), (67, C [d 50, d 50, d 50, d 50] 46 0)], 2⟩]
def kM4 : Kept := [(12, N12_4), (117, N117_4), (157, N157_4)]
def kU4 : T (List RM) := (m (q (q (m (q (q (l N117_4))) (q (p (p (l N157_4))))))) (p (q (l N12_4))))
theorem kU4_eq : kU4 = mkKept kM4 := by kernel_rfl
theorem kP4 : chk kb3 10000 60 kL4 = true := by kernel_rfl
theorem kN4 : chkRs kb3 10000 60 kM4 = true := by kernel_rfl
noncomputable def kb4 : Tab := kb3.over kT4 kU4
theorem kO4 : TabOk kb4 Tryz.prog := TabOk.over kO3 kT4 kU4
theorem kF4 {w0 : Base} (hF : FnOk tb0 Tryz.prog w0) : FnOk kb4 Tryz.prog w0 := FnOk.over kO3 (kF3 hF) kT4_eq kP4 kU4_eq kN4
def P36_5 : List (List V × V) := [([.agg [.str [51, 47, 50], d 48, d 48]], g 0)]
def P293_5 : List (List V × V) := [([], .agg [d 49, d 48, d 48, d 48, d 49, d 48, d 48, d 48, d 49, d 48, d 48, d 48])]
def P360_5 : List (List V × V) := [([d 50, d 50, d 48], d 50), ([d 50, d 50, .str [49, 47, 50]], d 50), ([d 50, d 50, d 49], d 50)]
def P361_5 : List (List V × V) := [([.agg [d 48, d 49, d 49, d 49, d 50, d 52, d 49, d 50], .str [49, 47, 51]], .agg [d 50, d 49, d 50])]
def P432_5 : List (List V × V) := [([.agg [d 49, d 48, d 48, d 50], .agg [d 49, d 49, d 50]], .str [45, 49])]
def kL5 : Memo := [(36, P36_5), (293, P293_5), (360, P360_5), (361, P361_5), (432, P432_5)]
def kT5 : T (List (List V × V)) := (m (q (m (q (p (q (q (p (l P361_5)))))) (p (p (q (p (p (l P293_5)))))))) (p (m (m (q (q (p (q (l P432_5))))) (p (q (q (p (l P360_5)))))) (p (p (l P36_5))))))
theorem kT5_eq : kT5 = mkMemo kL5 := by kernel_rfl
def N12_5 : List RM := [⟨[.agg [g 1, .nils, s 64 0 3 7]], [C [.str [51, 47, 50], d 48, d 48] 46 1], g 0, [(64, C [.str [51, 47, 50], d 48, d 48] 46 1)], 13⟩]
def N118_5 : List RM := [⟨[.agg [s 64 0 4 9, s 65 0 2 4], .agg [g 4, d 100, .nils, .nils, .nils, .str [], .str [], .str [], .str [], .str [], .str [], .str [], .str [], .str [], .str [], .nils, .str [], .str [], .str [], d 49, d 48, d 48, d 49, d 49, .str [114, 111, 99, 107], g 0, g 0, g 0, g 0, .str [], .str [], .str []]], [C [d 48, d 48, d 52, d 48, d 52, d 52, d 48, d 52] 129 2, C [g 0, g 1, g 2, g 0, g 2, g 3] 198 0], g 0, [(64, C [d 48, d 48, d 52, d 48, d 52, d 52, d 48, d 52] 129 2), (65, C [g 0, g 1, g 2, g 0, g 2, g 3] 198 0)], 124⟩]
def N121_5 : List RM := [⟨[.agg [s 64 0 4 9, s 65 0 2 4], s 66 0 1 2], [C [d 48, d 48, d 52, d 48, d 52, d 52, d 48, d 52] 129 2, C [g 0, g 1, g 2, g 0, g 2, g 3] 198 0, C [s 67 0 4 8] 45 0, C [d 50, d 50, d 50, d 50] 46 0], g 0, [(64, C [d 48, d 48, d 52, d 48, d 52, d 52, d 48, d 52] 129 2), (65, C [g 0, g 1, g 2, g 0, g 2, g 3] 198 0), (66, C [s 67 0 4 8] 45 0), (67, C [d 50, d 50, d 50, d 50] 46 0)], 117⟩]
def N125_5 : List RM := [⟨[.agg [s 64 0 4 9, s 65 0 2 4], .agg [d 48, d 49]], [C [d 48, d 48, d 52, d 48, d 52, d 52, d 48, d 52] 129 2, C [g 0, g 1, g 2, g 0, g 2, g 3] 198 0], .tup [.bool true, g 0], [(64, C [d 48, d 48, d 52, d 48, d 52, d 52, d 48, d 52] 129 2), (65, C [g 0, g 1, g 2, g 0, g 2, g 3] 198 0)], 150⟩, ⟨[.agg [s 64 0 4 9, s 65 0 2 4], .agg [d 52, d 49]], [C [d 48, d 48, d 52, d 48, d 52, d 52, d 48, d 52] 129 2, C [g 0, g 1, g 2, g 0, g 2, g 3] 198 0], .tup [.bool true, g 0], [(64, C [d 48, d 48, d 52, d 48, d 52, d 52, d 48, d 52] 129 2), (65, C [g 0, g 1, g 2, g 0, g 2, g 3] 198 0)], 144⟩]
def N148_5 : List RM := [⟨[.agg [s 64 0 4 9, s 65 0 2 4, .str [98, 97, 115, 101], s 66 0 1 2, s 67 0 4 8, d 48, d 49, d 52, d 49, d 48, d 50], .str [49, 47, 52], d 50], [C [d 48, d 48, d 52, d 48, d 52, d 52, d 48, d 52] 129 2, C [g 0, g 1, g 2, g 0, g 2, g 3] 198 0, C [g 4, d 100, .nils, .nils, .nils, .str [], .str [], .str [], .str [], .str [], .str [], .str [], .str [], .str [], .str [], .nils, .str [], .str [], .str [], d 49, d 48, d 48, d 49, d 49, .str [114, 111, 99, 107], g 0, g 0, g 0, g 0, .str [], .str [], .str []] 96 0, C [d 50, d 50, d 50, d 50] 46 0], .agg [d 49, d 49, d 50], [(64, C [d 48, d 48, d 52, d 48, d 52, d 52, d 48, d 52] 129 2), (65, C [g 0, g 1, g 2, g 0, g 2, g 3] 198 0), (66, C [g 4, d 100, .nils, .nils, .nils, .str [], .str [], .str [], .str [], .str [], .str [], .str [], .str [], .str [], .str [], .nils, .str [], .str [], .str [], d 49, d 48, d 48, d 49, d 49, .str [114, 111, 99, 107], g 0, g 0, g 0, g 0, .str [], .str [], .str []] 96 0), (67, C [d 50, d 50, d 50, d 50] 46 0)], 5⟩]
def N196_5 : List RM := [⟨[.agg [s 64 0 4 9, s 65 0 2 4], .agg [d 49, d 49]], [C [d 48, d 48, d 52, d 48, d 52, d 52, d 48, d 52] 129 2, C [g 0, g 1, g 2, g 0, g 2, g 3] 198 0], .tup [s 235 0 2 5, g 0], [(235, C [g 0, g 1] 3 1), (64, C [d 48, d 48, d 52, d 48, d 52, d 52, d 48, d 52] 129 2), (65, C [g 0, g 1, g 2, g 0, g 2, g 3] 198 0)], 170⟩, ⟨[.agg [s 64 0 4 9, s 65 0 2 4], .agg [d 51, d 49]], [C [d 48, d 48, d 52, d 48, d 52, d 52, d 48, d 52] 129 2, C [g 0, g 1, g 2, g 0, g 2, g 3] 198 0], .tup [s 210 0 1 3, g 0], [(210, C [g 0] 3 1), (64, C [d 48, d 48, d 52, d 48, d 52, d 52, d 48, d 52] 129 2), (65, C [g 0, g 1, g 2, g 0, g 2, g 3] 198 0)], 157⟩]
def N273_5 : List RM := [⟨[.agg [s 64 0 4 9, s 65 0 2 4], s 66 0 4 8, g 0], [C [d 48, d 48, d 52, d 48, d 52, d 52, d 48, d 52] 129 2, C [g 0, g 1, g 2, g 0, g 2, g 3] 198 0, C [d 50, d 50, d 50, d 50] 46 0], .agg [d 48, d 48], [(64, C [d 48, d 48, d 52, d 48, d 52, d 52, d 48, d 52] 129 2), (65, C [g 0, g 1, g 2, g 0, g 2, g 3] 198 0), (66, C [d 50, d 50, d 50, d 50] 46 0)], 5⟩, ⟨[.agg [s 64 0 4 9, s 65 0 2 4], s 66 0 4 8, g 1], [C [d 48, d 48, d 52, d 48, d 52, d 52, d 48, d 52] 129 2, C [g 0, g 1, g 2, g 0, g 2, g 3] 198 0, C [d 50, d 50, d 50, d 50] 46 0], .agg [d 48, d 48], [(64, C [d 48, d 48, d 52, d 48, d 52, d 52, d 48, d 52] 129 2), (65, C [g 0, g 1, g 2, g 0, g 2, g 3] 198 0), (66, C [d 50, d 50, d 50, d 50] 46 0)], 5⟩]
def kM5 : Kept := [(12, N12_5), (118, N118_5), (121, N121_5), (125, N125_5), (148, N148_5), (196, N196_5), (273, N273_5)]
def kU5 : T (List RM) := (m (q (m (m (q (p (p (p (l N273_5))))) (q (q (l N121_5)))) (q (q (q (l N125_5)))))) (m (q (b (m (p (q (l N196_5))) (p (p (l N148_5)))) N12_5)) (q (p (q (q (l N118_5)))))))
theorem kU5_eq : kU5 = mkKept kM5 := by kernel_rfl
theorem kP5 : chk kb4 10000 60 kL5 = true := by kernel_rfl
theorem kN5 : chkRs kb4 10000 60 kM5 = true := by kernel_rfl
noncomputable def kb5 : Tab := kb4.over kT5 kU5
theorem kO5 : TabOk kb5 Tryz.prog := TabOk.over kO4 kT5 kU5
theorem kF5 {w0 : Base} (hF : FnOk tb0 Tryz.prog w0) : FnOk kb5 Tryz.prog w0 := FnOk.over kO4 (kF4 hF) kT5_eq kP5 kU5_eq kN5
def kL6 : Memo := []
def kT6 : T (List (List V × V)) := .e
theorem kT6_eq : kT6 = mkMemo kL6 := by kernel_rfl
def N67_6 : List RM := [⟨[.agg [s 64 0 4 9, s 65 0 2 4, .str [98, 97, 115, 101], s 66 0 1 2]], [C [d 48, d 48, d 52, d 48, d 52, d 52, d 48, d 52] 129 2, C [g 0, g 1, g 2, g 0, g 2, g 3] 198 0, C [g 4, d 100, .nils, .nils, .nils, .str [], .str [], .str [], .str [], .str [], .str [], .str [], .str [], .str [], .str [], .nils, .str [], .str [], .str [], d 49, d 48, d 48, d 49, d 49, .str [114, 111, 99, 107], g 0, g 0, g 0, g 0, .str [], .str [], .str []] 96 0], g 0, [(64, C [d 48, d 48, d 52, d 48, d 52, d 52, d 48, d 52] 129 2), (65, C [g 0, g 1, g 2, g 0, g 2, g 3] 198 0), (66, C [g 4, d 100, .nils, .nils, .nils, .str [], .str [], .str [], .str [], .str [], .str [], .str [], .str [], .str [], .str [], .nils, .str [], .str [], .str [], d 49, d 48, d 48, d 49, d 49, .str [114, 111, 99, 107], g 0, g 0, g 0, g 0, .str [], .str [], .str []] 96 0)], 249⟩]
def N68_6 : List RM := [⟨[.agg [s 64 0 4 9, s 65 0 2 4], s 66 0 4 8], [C [d 48, d 48, d 52, d 48, d 52, d 52, d 48, d 52] 129 2, C [g 0, g 1, g 2, g 0, g 2, g 3] 198 0, C [d 50, d 50, d 50, d 50] 46 0], g 0, [(64, C [d 48, d 48, d 52, d 48, d 52, d 52, d 48, d 52] 129 2), (65, C [g 0, g 1, g 2, g 0, g 2, g 3] 198 0), (66, C [d 50, d 50, d 50, d 50] 46 0)], 119⟩]
def N380_6 : List RM := [⟨[.agg [s 64 0 4 9, s 65 0 2 4], .agg [g 4, d 100, .nils, .nils, .nils, .str [], .str [], .str [], .str [], .str [], .str [], .str [], .str [], .str [], .str [], .nils, .str [], .str [], .str [], d 49, d 48, d 48, d 49, d 49, .str [114, 111, 99, 107], g 0, g 0, g 0, g 0, .str [], .str [], .str []], g 0], [C [d 48, d 48, d 52, d 48, d 52, d 52, d 48, d 52] 129 2, C [g 0, g 1, g 2, g 0, g 2, g 3] 198 0], .tup [s 196 0 2 4, g 0], [(196, C [d 49, d 48, d 48, d 49, d 49, d 48, d 48, d 50] 81 0), (64, C [d 48, d 48, d 52, d 48, d 52, d 52, d 48, d 52] 129 2), (65, C [g 0, g 1, g 2, g 0, g 2, g 3] 198 0)], 135⟩]
def N434_6 : List RM := [⟨[.agg [s 64 0 4 9, s 65 0 2 4], .agg [g 4, d 100, .nils, .nils, .nils, .str [], .str [], .str [], .str [], .str [], .str [], .str [], .str [], .str [], .str [], .nils, .str [], .str [], .str [], d 49, d 48, d 48, d 49, d 49, .str [114, 111, 99, 107], g 0, g 0, g 0, g 0, .str [], .str [], .str []], g 1], [C [d 48, d 48, d 52, d 48, d 52, d 52, d 48, d 52] 129 2, C [g 0, g 1, g 2, g 0, g 2, g 3] 198 0], .tup [.str [114, 111, 99, 107], .bool true, g 0], [(64, C [d 48, d 48, d 52, d 48, d 52, d 52, d 48, d 52] 129 2), (65, C [g 0, g 1, g 2, g 0, g 2, g 3] 198 0)], 128⟩]
def N490_6 : List RM := [⟨[.agg [s 64 0 4 9, s 65 0 2 4], .agg [g 4, d 100, .nils, .nils, .nils, .str [], .str [], .str [], .str [], .str [], .str [], .str [], .str [], .str [], .str [], .nils, .str [], .str [], .str [], d 49, d 48, d 48, d 49, d 49, .str [114, 111, 99, 107], g 0, g 0, g 0, g 0, .str [], .str [], .str []], g 0], [C [d 48, d 48, d 52, d 48, d 52, d 52, d 48, d 52] 129 2, C [g 0, g 1, g 2, g 0, g 2, g 3] 198 0], g 0, [(64, C [d 48, d 48, d 52, d 48, d 52, d 52, d 48, d 52] 129 2), (65, C [g 0, g 1, g 2, g 0, g 2, g 3] 198 0)], 126⟩, ⟨[.agg [s 64 0 4 9, s 65 0 2 4], .agg [g 4, d 100, .nils, .nils, .nils, .str [], .str [], .str [], .str [], .str [], .str [], .str [], .str [], .str [], .str [], .nils, .str [], .str [], .str [], d 49, d 48, d 48, d 49, d 49, .str [114, 111, 99, 107], g 0, g 0, g 0, g 0, .str [], .str [], .str []], g 2], [C [d 48, d 48, d 52, d 48, d 52, d 52, d 48, d 52] 129 2, C [g 0, g 1, g 2, g 0, g 2, g 3] 198 0], g 0, [(64, C [d 48, d 48, d 52, d 48, d 52, d 52, d 48, d 52] 129 2), (65, C [g 0, g 1, g 2, g 0, g 2, g 3] 198 0)], 126⟩]
def kM6 : Kept := [(67, N67_6), (68, N68_6), (380, N380_6), (434, N434_6), (490, N490_6)]
def kU6 : T (List RM) := (m (p (q (p (p (p (l N67_6)))))) (m (q (m (p (p (l N68_6))) (q (q (q (p (l N380_6))))))) (p (m (q (q (p (q (l N434_6))))) (p (q (q (q (l N490_6)))))))))
theorem kU6_eq : kU6 = mkKept kM6 := by kernel_rfl
theorem kP6 : chk kb5 10000 60 kL6 = true := by kernel_rfl
theorem kN6 : chkRs kb5 10000 60 kM6 = true := by kernel_rfl
noncomputable def kb6 : Tab := kb5.over kT6 kU6
theorem kO6 : TabOk kb6 Tryz.prog := TabOk.over kO5 kT6 kU6
theorem kF6 {w0 : Base} (hF : FnOk tb0 Tryz.prog w0) : FnOk kb6 Tryz.prog w0 := FnOk.over kO5 (kF5 hF) kT6_eq kP6 kU6_eq kN6
def kL7 : Memo := []
def kT7 : T (List (List V × V)) := .e
theorem kT7_eq : kT7 = mkMemo kL7 := by kernel_rfl
def N34_7 : List RM := [⟨[.agg [s 64 0 4 9, s 65 0 2 4, .str [98, 97, 115, 101], s 66 0 1 2, s 67 0 4 8, d 48]], [C [d 48, d 48, d 52, d 48, d 52, d 52, d 48, d 52] 129 2, C [g 0, g 1, g 2, g 0, g 2, g 3] 198 0, C [g 4, d 100, .nils, .nils, .nils, .str [], .str [], .str [], .str [], .str [], .str [], .str [], .str [], .str [], .str [], .nils, .str [], .str [], .str [], d 49, d 48, d 48, d 49, d 49, .str [114, 111, 99, 107], g 0, g 0, g 0, g 0, .str [], .str [], .str []] 96 0, C [d 50, d 50, d 50, d 50] 46 0], g 0, [(64, C [d 48, d 48, d 52, d 48, d 52, d 52, d 48, d 52] 129 2), (65, C [g 0, g 1, g 2, g 0, g 2, g 3] 198 0), (66, C [g 4, d 100, .nils, .nils, .nils, .str [], .str [], .str [], .str [], .str [], .str [], .str [], .str [], .str [], .str [], .nils, .str [], .str [], .str [], d 49, d 48, d 48, d 49, d 49, .str [114, 111, 99, 107], g 0, g 0, g 0, g 0, .str [], .str [], .str []] 96 0), (67, C [d 50, d 50, d 50, d 50] 46 0)], 369⟩]
def N73_7 : List RM := [⟨[.agg [s 64 0 4 9, s 65 0 2 4, .str [98, 97, 115, 101], s 66 0 1 2], .agg [.str [51, 47, 50], d 48, d 48]], [C [d 48, d 48, d 52, d 48, d 52, d 52, d 48, d 52] 129 2, C [g 0, g 1, g 2, g 0, g 2, g 3] 198 0, C [g 4, d 100, .nils, .nils, .nils, .str [], .str [], .str [], .str [], .str [], .str [], .str [], .str [], .str [], .str [], .nils, .str [], .str [], .str [], d 49, d 48, d 48, d 49, d 49, .str [114, 111, 99, 107], g 0, g 0, g 0, g 0, .str [], .str [], .str []] 96 0], g 0, [(64, C [d 48, d 48, d 52, d 48, d 52, d 52, d 48, d 52] 129 2), (65, C [g 0, g 1, g 2, g 0, g 2, g 3] 198 0), (66, C [g 4, d 100, .nils, .nils, .nils, .str [], .str [], .str [], .str [], .str [], .str [], .str [], .str [], .str [], .str [], .nils, .str [], .str [], .str [], d 49, d 48, d 48, d 49, d 49, .str [114, 111, 99, 107], g 0, g 0, g 0, g 0, .str [], .str [], .str []] 96 0)], 251⟩]
def N93_7 : List RM := [⟨[.agg [s 64 0 4 9, s 65 0 2 4, .str [98, 97, 115, 101], s 66 0 1 2], .str [114, 111, 99, 107]], [C [d 48, d 48, d 52, d 48, d 52, d 52, d 48, d 52] 129 2, C [g 0, g 1, g 2, g 0, g 2, g 3] 198 0, C [g 4, d 100, .nils, .nils, .nils, .str [], .str [], .str [], .str [], .str [], .str [], .str [], .str [], .str [], .str [], .nils, .str [], .str [], .str [], d 49, d 48, d 48, d 49, d 49, .str [114, 111, 99, 107], g 0, g 0, g 0, g 0, .str [], .str [], .str []] 96 0], .tup [g 1, g 0], [(64, C [d 48, d 48, d 52, d 48, d 52, d 52, d 48, d 52] 129 2), (65, C [g 0, g 1, g 2, g 0, g 2, g 3] 198 0), (66, C [g 4, d 100, .nils, .nils, .nils, .str [], .str [], .str [], .str [], .str [], .str [], .str [], .str [], .str [], .str [], .nils, .str [], .str [], .str [], d 49, d 48, d 48, d 49, d 49, .str [114, 111, 99, 107], g 0, g 0, g 0, g 0, .str [], .str [], .str []] 96 0)], 256⟩]
def N137_7 : List RM := [⟨[.agg [s 64 0 4 9, s 65 0 2 4, .str [98, 97, 115, 101], s 66 0 1 2], .agg [d 49, d 49, d 50], d 50], [C [d 48, d 48, d 52, d 48, d 52, d 52, d 48, d 52] 129 2, C [g 0, g 1, g 2, g 0, g 2, g 3] 198 0, C [g 4, d 100, .nils, .nils, .nils, .str [], .str [], .str [], .str [], .str [], .str [], .str [], .str [], .str [], .str [], .nils, .str [], .str [], .str [], d 49, d 48, d 48, d 49, d 49, .str [114, 111, 99, 107], g 0, g 0, g 0, g 0, .str [], .str [], .str []] 96 0], .tup [.agg [d 49, d 49, d 48], g 0], [(64, C [d 48, d 48, d 52, d 48, d 52, d 52, d 48, d 52] 129 2), (65, C [g 0, g 1, g 2, g 0, g 2, g 3] 198 0), (66, C [g 4, d 100, .nils, .nils, .nils, .str [], .str [], .str [], .str [], .str [], .str [], .str [], .str [], .str [], .str [], .nils, .str [], .str [], .str [], d 49, d 48, d 48, d 49, d 49, .str [114, 111, 99, 107], g 0, g 0, g 0, g 0, .str [], .str [], .str []] 96 0)], 252⟩, ⟨[.agg [s 64 0 4 9, s 65 0 2 4, .str [98, 97, 115, 101], s 66 0 1 2], .agg [d 51, d 49, d 50], d 50], [C [d 48, d 48, d 52, d 48, d 52, d 52, d 48, d 52] 129 2, C [g 0, g 1, g 2, g 0, g 2, g 3] 198 0, C [g 4, d 100, .nils, .nils, .nils, .str [], .str [], .str [], .str [], .str [], .str [], .str [], .str [], .str [], .str [], .nils, .str [], .str [], .str [], d 49, d 48, d 48, d 49, d 49, .str [114, 111, 99, 107], g 0, g 0, g 0, g 0, .str [], .str [], .str []] 96 0], .tup [.agg [d 51, d 49, d 48], g 0], [(64, C [d 48, d 48, d 52, d 48, d 52, d 52, d 48, d 52] 129 2), (65, C [g 0, g 1, g 2, g 0, g 2, g 3] 198 0), (66, C [g 4, d 100, .nils, .nils, .nils, .str [], .str [], .str [], .str [], .str [], .str [], .str [], .str [], .str [], .str [], .nils, .str [], .str [], .str [], d 49, d 48, d 48, d 49, d 49, .str [114, 111, 99, 107], g 0, g 0, g 0, g 0, .str [], .str [], .str []] 96 0)], 252⟩]
def N138_7 : List RM := [⟨[.agg [s 64 0 4 9, s 65 0 2 4, .str [98, 97, 115, 101], s 66 0 1 2], .str [114, 111, 99, 107]], [C [d 48, d 48, d 52, d 48, d 52, d 52, d 48, d 52] 129 2, C [g 0, g 1, g 2, g 0, g 2, g 3] 198 0, C [g 4, d 100, .nils, .nils, .nils, .str [], .str [], .str [], .str [], .str [], .str [], .str [], .str [], .str [], .str [], .nils, .str [], .str [], .str [], d 49, d 48, d 48, d 49, d 49, .str [114, 111, 99, 107], g 0, g 0, g 0, g 0, .str [], .str [], .str []] 96 0], .bool true, [(64, C [d 48, d 48, d 52, d 48, d 52, d 52, d 48, d 52] 129 2), (65, C [g 0, g 1, g 2, g 0, g 2, g 3] 198 0), (66, C [g 4, d 100, .nils, .nils, .nils, .str [], .str [], .str [], .str [], .str [], .str [], .str [], .str [], .str [], .str [], .nils, .str [], .str [], .str [], d 49, d 48, d 48, d 49, d 49, .str [114, 111, 99, 107], g 0, g 0, g 0, g 0, .str [], .str [], .str []] 96 0)], 257⟩]
def N434_7 : List RM := [⟨[.agg [s 64 0 4 9, s 65 0 2 4], .agg [g 4, d 100, .nils, .nils, .nils, .str [], .str [], .str [], .str [], .str [], .str [], .str [], .str [], .str [], .str [], .nils, .str [], .str [], .str [], d 49, d 48, d 48, d 49, d 49, .str [114, 111, 99, 107], g 0, g 0, g 0, g 0, .str [], .str [], .str []], g 2], [C [d 48, d 48, d 52, d 48, d 52, d 52, d 48, d 52] 129 2, C [g 0, g 1, g 2, g 0, g 2, g 3] 198 0], .tup [.str [], .bool false, g 0], [(64, C [d 48, d 48, d 52, d 48, d 52, d 52, d 48, d 52] 129 2), (65, C [g 0, g 1, g 2, g 0, g 2, g 3] 198 0)], 128⟩]
def N435_7 : List RM := [⟨[.agg [s 64 0 4 9, s 65 0 2 4], .agg [g 4, d 100, .nils, .nils, .nils, .str [], .str [], .str [], .str [], .str [], .str [], .str [], .str [], .str [], .str [], .nils, .str [], .str [], .str [], d 49, d 48, d 48, d 49, d 49, .str [114, 111, 99, 107], g 0, g 0, g 0, g 0, .str [], .str [], .str []], g 2], [C [d 48, d 48, d 52, d 48, d 52, d 52, d 48, d 52] 129 2, C [g 0, g 1, g 2, g 0, g 2, g 3] 198 0], .tup [.agg [d 49, d 48, d 48, d 48, d 49, d 48, d 48, d 48, d 49, d 48, d 48, d 48], g 0], [(64, C [d 48, d 48, d 52, d 48, d 52, d 52, d 48, d 52] 129 2), (65, C [g 0, g 1, g 2, g 0, g 2, g 3] 198 0)], 130⟩]
def kM7 : Kept := [(34, N34_7), (73, N73_7), (93, N93_7), (137, N137_7), (138, N138_7), (434, N434_7), (435, N435_7)]
def kU7 : T (List RM) := (m (m (q (p (q (q (p (q (l N435_7))))))) (m (q (p (p (b (l N137_7) N73_7)))) (q (q (p (l N93_7)))))) (q (p (m (m (l N34_7) (q (p (q (l N434_7))))) (p (p (p (l N138_7))))))))
theorem kU7_eq : kU7 = mkKept kM7 := by kernel_rfl
theorem kP7 : chk kb6 10000 60 kL7 = true := by kernel_rfl
theorem kN7 : chkRs kb6 10000 60 kM7 = true := by kernel_rfl
noncomputable def kb7 : Tab := kb6.over kT7 kU7
theorem kO7 : TabOk kb7 Tryz.prog := TabOk.over kO6 kT7 kU7
theorem kF7 {w0 : Base} (hF : FnOk tb0 Tryz.prog w0) : FnOk kb7 Tryz.prog w0 := FnOk.over kO6 (kF6 hF) kT7_eq kP7 kU7_eq kN7
def kL8 : Memo := []
def kT8 : T (List (List V × V)) := .e
theorem kT8_eq : kT8 = mkMemo kL8 := by kernel_rfl
def N44_8 : List RM := [⟨[.agg [s 64 0 4 9, s 65 0 2 4, .str [98, 97, 115, 101], s 66 0 1 2, s 67 0 4 8, d 48], .agg [g 4, s 68 0 1 3, s 69 0 2 5]], [C [d 48, d 48, d 52, d 48, d 52, d 52, d 48, d 52] 129 2, C [g 0, g 1, g 2, g 0, g 2, g 3] 198 0, C [g 4, d 100, .nils, .nils, .nils, .str [], .str [], .str [], .str [], .str [], .str [], .str [], .str [], .str [], .str [], .nils, .str [], .str [], .str [], d 49, d 48, d 48, d 49, d 49, .str [114, 111, 99, 107], g 0, g 0, g 0, g 0, .str [], .str [], .str []] 96 0, C [d 50, d 50, d 50, d 50] 46 0, C [.str [114, 111, 99, 107]] 9 1, C [d 51, d 49] 46 1], .tup [s 2035 0 1 2, g 0], [(2035, C [.str [110, 111, 110, 101]] 9 0), (64, C [d 48, d 48, d 52, d 48, d 52, d 52, d 48, d 52] 129 2), (65, C [g 0, g 1, g 2, g 0, g 2, g 3] 198 0), (66, C [g 4, d 100, .nils, .nils, .nils, .str [], .str [], .str [], .str [], .str [], .str [], .str [], .str [], .str [], .str [], .nils, .str [], .str [], .str [], d 49, d 48, d 48, d 49, d 49, .str [114, 111, 99, 107], g 0, g 0, g 0, g 0, .str [], .str [], .str []] 96 0), (67, C [d 50, d 50, d 50, d 50] 46 0), (68, C [.str [114, 111, 99, 107]] 9 1), (69, C [d 51, d 49] 46 1)], 1966⟩]
def N279_8 : List RM := [⟨[.agg [d 48, d 49, d 49, d 49, d 50, d 52, d 49, d 50], .agg [s 64 0 4 9, s 65 0 2 4, .str [98, 97, 115, 101], s 66 0 1 2], g 1, .nils, .ptr 67 0], [C [d 48, d 48, d 52, d 48, d 52, d 52, d 48, d 52] 129 2, C [g 0, g 1, g 2, g 0, g 2, g 3] 198 0, C [g 4, d 100, .nils, .nils, .nils, .str [], .str [], .str [], .str [], .str [], .str [], .str [], .str [], .str [], .str [], .nils, .str [], .str [], .str [], d 49, d 48, d 48, d 49, d 49, .str [114, 111, 99, 107], g 0, g 0, g 0, g 0, .str [], .str [], .str []] 96 0, C [.nils] 320 0], g 0, [(64, C [d 48, d 48, d 52, d 48, d 52, d 52, d 48, d 52] 129 2), (65, C [g 0, g 1, g 2, g 0, g 2, g 3] 198 0), (66, C [g 4, d 100, .nils, .nils, .nils, .str [], .str [], .str [], .str [], .str [], .str [], .str [], .str [], .str [], .str [], .nils, .str [], .str [], .str [], d 49, d 48, d 48, d 49, d 49, .str [114, 111, 99, 107], g 0, g 0, g 0, g 0, .str [], .str [], .str []] 96 0), (67, C [s 977 0 2 5] 320 0), (977, C [d 48, .str [49, 47, 51], .str [114, 111, 99, 107], s 500 0 1 3, .str [49, 47, 51], d 49, .str [98, 97, 115, 101], s 976 0 1 3] 324 4), (500, C [g 1] 3 1), (976, C [g 2] 3 1)], 910⟩]
def kM8 : Kept := [(44, N44_8), (279, N279_8)]
def kU8 : T (List RM) := (m (p (p (q (q (p (p (p (l N279_8)))))))) (p (q (q (p (l N44_8))))))
theorem kU8_eq : kU8 = mkKept kM8 := by kernel_rfl
theorem kP8 : chk kb7 10000 60 kL8 = true := by kernel_rfl
theorem kN8 : chkRs kb7 10000 60 kM8 = true := by kernel_rfl
noncomputable def kb8 : Tab := kb7.over kT8 kU8
theorem kO8 : TabOk kb8 Tryz.prog := TabOk.over kO7 kT8 kU8
theorem kF8 {w0 : Base} (hF : FnOk tb0 Tryz.prog w0) : FnOk kb8 Tryz.prog w0 := FnOk.over kO7 (kF7 hF) kT8_eq kP8 kU8_eq kN8
def kL9 : Memo := []
def kT9 : T (List (List V × V)) := .e
theorem kT9_eq : kT9 = mkMemo kL9 := by kernel_rfl
def N89_9 : List RM := [⟨[.agg [s 64 0 4 9, s 65 0 2 4, .str [98, 97, 115, 101], s 66 0 1 2, s 67 0 4 8, d 48, d 49, d 52, d 49, d 48, d 50]], [C [d 48, d 48, d 52, d 48, d 52, d 52, d 48, d 52] 129 2, C [g 0, g 1, g 2, g 0, g 2, g 3] 198 0, C [g 4, d 100, .nils, .nils, .nils, .str [], .str [], .str [], .str [], .str [], .str [], .str [], .str [], .str [], .str [], .nils, .str [], .str [], .str [], d 49, d 48, d 48, d 49, d 49, .str [114, 111, 99, 107], g 0, g 0, g 0, g 0, .str [], .str [], .str []] 96 0, C [d 50, d 50, d 50, d 50] 46 0], .tup [s 3459 0 3 7, g 0], [(3459, C [d 48, .str [49, 47, 52], .str [98, 97, 115, 101], .str [49, 47, 52], .str [49, 47, 50], .str [114, 111, 99, 107], .str [49, 47, 50], d 49, .str [98, 97, 115, 101]] 226 3), (64, C [d 48, d 48, d 52, d 48, d 52, d 52, d 48, d 52] 129 2), (65, C [g 0, g 1, g 2, g 0, g 2, g 3] 198 0), (66, C [g 4, d 100, .nils, .nils, .nils, .str [], .str [], .str [], .str [], .str [], .str [], .str [], .str [], .str [], .str [], .nils, .str [], .str [], .str [], d 49, d 48, d 48, d 49, d 49, .str [114, 111, 99, 107], g 0, g 0, g 0, g 0, .str [], .str [], .str []] 96 0), (67, C [d 50, d 50, d 50, d 50] 46 0)], 3392⟩]
def kM9 : Kept := [(89, N89_9)]
def kU9 : T (List RM) := (p (q (p (q (q (p (l N89_9)))))))
theorem kU9_eq : kU9 = mkKept kM9 := by kernel_rfl
theorem kP9 : chk kb8 10000 60 kL9 = true := by kernel_rfl
theorem kN9 : chkRs kb8 10000 60 kM9 = true := by kernel_rfl
noncomputable def kb9 : Tab := kb8.over kT9 kU9
theorem kO9 : TabOk kb9 Tryz.prog := TabOk.over kO8 kT9 kU9
theorem kF9 {w0 : Base} (hF : FnOk tb0 Tryz.prog w0) : FnOk kb9 Tryz.prog w0 := FnOk.over kO8 (kF8 hF) kT9_eq kP9 kU9_eq kN9
theorem root_chk : memoOk kb9 10000 60 5 [] (.bool true) = true := by kernel_rfl
theorem known_true {w0 : Base} (hF : FnOk tb0 Tryz.prog w0) : Contract Tryz.prog w0 5 [] (.bool true) := memo_ok kO9 (kF9 hF) root_chk
end Go.Proofs.YtjcfejncjdhplaaGreatDoor
