/-
  klippelaw34.OutcropFrames: the way to its tail.
-/
import Derived.Test.YtkgiaicagecmpaaGreatDoorTerr
set_option linter.unusedSectionVars false
set_option linter.unusedVariables false
set_option linter.unusedSimpArgs false
namespace Go.Proofs.YtkgiaicagecmpaaGreatDoor
open Go Ev Klp
noncomputable def restL : Code := sq2 (sq2 (sq2 (bodyOf Tryz.f3)))
def xW (tri s0 s1 : Int) (z : Nat → Int) (i : Nat) : Int := (([tri, 0, 0, s0, s1, z 0, z 1, z 2, z 3, z 4, z 5] : List Int)[i]?).getD 0
def bdWL : List Iv := [(-9223372036854775808, 9223372036854775807), (0, 0), (0, 0), (-7, 7), (-7, 7), (-38, 38), (-38, 38), (-38, 38), (-38, 38), (-38, 38), (-38, 38)]
noncomputable def bdWT : T Iv := T.ofList .e 0 bdWL
structure LawT where
  d : Nat
  pts : List (Int × Int)
  tris : List Int
  nt : Nat
  tab : T SE
  cp : List V
  ch : List V
  cs : List TabsR
  lo : TabsR
  hi : TabsR
def LawT.np (t : LawT) : Nat := t.pts.length
def slP (n : Nat) : V := .slice 32 0 n (2 * n + 1)
def slT (n : Nat) : V := .slice 33 0 n (2 * n + 1)
def slH (n : Nat) : V := .slice 34 0 n (2 * n + 1)
def memoW (t : LawT) : Memo := [(63, [([.agg [slP t.np, slT t.nt, .str baseB, .sym 1]], .int .i64 0)]), (45, [([.agg [slP t.np, slT t.nt]], .int .i64 0)])]
def glW (t : LawT) : List (Nat × List V) := [(32, t.cp), (33, t.tris.map fun n => .int .i64 n), (34, t.ch)]
noncomputable def cxW (t : LawT) (fs : Facts) : CX := ⟨t.tab, bdWT, fs, [], []⟩
noncomputable def kitW (t : LawT) (fs : Facts) (r : TabsR) : Kit := ⟨cxW t fs, r.bins, r.convs, r.rows, tmk (memoW t), .e, tmk (glW t), ⟨[], [], []⟩⟩
def htsW (np : Nat) : List Num := (List.range np).map fun i => ⟨[([5 + i], 1)], 2⟩
noncomputable def sW (t : LawT) (tri : V) : S :=
  { t := (T.e.set 1 tri).set 5 (.ptr 64 0), h := boxH 64 [([slP t.np, slT t.nt, .str baseB, .sym 1, slH t.np], 46)], nx := 65, m := [] }
noncomputable def runW (t : LawT) (fs : Facts) (r : TabsR) (tri : V) : Bool := (kitW t fs r).chk && (match tailRun (kitW t fs r).tab 10000 60 Tryz.f3 restL (sW t tri) with
  | some rs => rs.all fun r => V.eq r.1 (.bool true)
  | none => false)
noncomputable def runsW (t : LawT) : Nat → List TabsR → Bool
  | _, [] => true
  | k, r :: l => runW t [] r (.int .i64 (Int.ofNat k)) && runsW t (k + 1) l
def fsLo : Facts := [(P0 0, ⟨true, false, false⟩)]
def fsHi (nt : Nat) : Facts := [(P0 0, ⟨false, false, true⟩), ([([0], 1), ([], -(nt : Int))], ⟨false, true, true⟩)]
noncomputable def LawT.own (t : LawT) : Bool := tabHas t.tab 0 [.int .i64 (P0 0), .opq 0] && numsEq (cxW t []) (ptsN t.d t.pts) t.cp && numsEq (cxW t []) (htsW t.np) t.ch && Nat.beq t.cs.length t.nt && Nat.ble 1 t.nt && Nat.ble t.np 6
structure LawT.Ok (t : LawT) : Prop where
  own : t.own = true
  runs : runsW t 0 t.cs = true
  lo : runW t fsLo t.lo (.sym 0) = true
  hi : runW t (fsHi t.nt) t.hi (.sym 0) = true
end Go.Proofs.YtkgiaicagecmpaaGreatDoor
namespace Go.Proofs.YtkgiaicagecmpaaGreatDoor
open Go.RowKit Go Ev Klp
theorem restL_dst : dstOk 142 restL = true := by kernel_rfl
theorem xW_bd {tri s0 s1 : Int} {z : Nat → Int} (ht : -9223372036854775808 ≤ tri ∧ tri ≤ 9223372036854775807) (h0 : -7 ≤ s0 ∧ s0 ≤ 7) (h1 : -7 ≤ s1 ∧ s1 ≤ 7) (hz : ∀ i, i < 6 → -38 ≤ z i ∧ z i ≤ 38) (v : Nat) : ((bdWT.get v).getD (0, 0)).has (xW tri s0 s1 z v) :=
  by
    unfold xW
    refine bd_of (l := bdWL) ?_ v
    exact ⟨ht, ⟨Int.le_refl _, Int.le_refl _⟩, ⟨Int.le_refl _, Int.le_refl _⟩, h0, h1, hz 0 (by omega), hz 1 (by omega), hz 2 (by omega), hz 3 (by omega), hz 4 (by omega), hz 5 (by omega), trivial⟩
theorem htsW_val (tri s0 s1 : Int) (z : Nat → Int) (np : Nat) (hn : np ≤ 6) : (htsW np).map (fun e => strV (canon (e.val (xW tri s0 s1 z)))) = htsR np z := by
  simp only [htsW, htsR, List.map_map]
  refine List.map_congr_left fun i hi => ?_
  have hi := List.mem_range.1 hi
  simp only [Function.comp]
  unfold Num.val
  have e : Poly.ev (xW tri s0 s1 z) [([5 + i], 1)] = z i := by
    have : xW tri s0 s1 z (5 + i) = z i := by
      have : i = 0 ∨ i = 1 ∨ i = 2 ∨ i = 3 ∨ i = 4 ∨ i = 5 := by omega
      rcases this with rfl | rfl | rfl | rfl | rfl | rfl <;> rfl
    simp only [Poly.ev, Poly.evM, this, Int.mul_one, Int.one_mul, Int.add_zero]
  rw [e]; rfl
def LawP (w : World) (e : Ending) (w' : World) : Prop := e = .returned (.bool true) ∧ Grew w w' ∧ ∀ b, b < w.heap.size → w'.heap[b]? = w.heap[b]?
theorem runsW_get {t : LawT} : ∀ {l : List TabsR} {k : Nat}, runsW t k l = true → ∀ (j : Nat) (r : TabsR), l[j]? = some r → runW t [] r (.int .i64 (Int.ofNat (k + j))) = true
  | [], k, _, j, r, h => by simp at h
  | a :: l, k, h, j, r, hj => by
    simp only [runsW, Bool.and_eq_true] at h
    cases j with
    | zero => simp at hj; subst hj; exact h.1
    | succ j => have := runsW_get h.2 j r (by simpa using hj); rwa [show k + 1 + j = k + (j + 1) from by omega] at this
theorem slV_inj {b n c b' n' c' : Nat} (h : slV b n c = slV b' n' c') : b = b' ∧ n = n' ∧ c = c' := by
  unfold slV at h
  simp only [Value.slice.injEq, Option.some.injEq, Addr.mk.injEq, and_true] at h
  exact h
theorem capOf_stat {b c n : Nat} (h : n ≤ c) : capOf { blk := b, size := c, unit := 1 } 0 (2 * n + 1) = c := by
  unfold capOf
  rw [if_neg (by omega)]
  simp only [Nat.sub_zero, Nat.div_one]
  omega
section
variable {M1 : Mem} (hg : Good M1) {t : LawT} (ht : t.Ok) {s0 s1 : Int} (h0 : -7 ≤ s0 ∧ s0 ≤ 7) (h1 : -7 ≤ s1 ∧ s1 ≤ 7) {z : Nat → Int} (hz : ∀ i, i < 6 → -38 ≤ z i ∧ z i ≤ 38) {tri : Int} (htri : -9223372036854775808 ≤ tri ∧ tri ≤ 9223372036854775807)
  {b0 c0 b1 c1 : Nat} {sv tv : Value} (hsv : oneV sv) (hmesh : CallOk Tryz.prog M1 45 [.agg #[slV b0 t.np c0, slV b1 t.nt c1]] (.int .i64 0)) (hraw : MeshRaw t.d s0 s1 t.pts t.tris t.nt (slV b0 t.np c0) (slV b1 t.nt c1) M1)
  (hhist : CallOk Tryz.prog M1 63 [.agg #[slV b0 t.np c0, slV b1 t.nt c1, strB baseB, sv]] (.int .i64 0)) (hterr : TerrRaw M1 t.np z tv)
include hg ht h0 h1 hz htri hsv hmesh hraw hhist hterr
theorem law_run {fs : Facts} {r : TabsR} {triV : V} (hfs : FactsHold (xW tri s0 s1 z) fs) (hr : runW t fs r triV = true) (htv : triV = .sym 0 ∨ triV = .int .i64 tri) {w w1 : World} {a : Act} {p1 : Nat} (hon : M1.On w1) (ts : a.tmps.size = 142)
    (t1 : a.tmps[1]? = some (.int .i64 tri)) (t5 : a.tmps[5]? = some (.pointer (some ⟨p1, 0, none⟩))) (hdf : a.defers = []) (hp : w1.heap[p1]? = some (.cells #[slV b0 t.np c0, slV b1 t.nt c1, strB baseB, sv, tv] 46 (0, 0)))
    (z1 : ¬ (p1 < M1.heap.size ∧ M1.frz p1)) (hgr : Grew w w1) (hfr : ∀ b, b < w.heap.size → w1.heap[b]? = w.heap[b]?) (q1 : w.heap.size ≤ p1) :
    restL.wp Tryz.prog (bodyPost Tryz.prog Tryz.f3 (LawP w)) a w1 := by
  have hown := ht.own
  simp only [LawT.own, Bool.and_eq_true] at hown
  obtain ⟨⟨⟨⟨⟨o1, o2⟩, o3⟩, o4⟩, o5⟩, o6⟩ := hown
  have o6 := nble_le o6
  obtain ⟨b2, c2, rfl, hc2, zf2, rc2, ty2, fr2, rest2, g2, e2⟩ := hterr
  obtain ⟨b0', c0', b1', c1', y0, y1, hc0, hc1, zf0, zf1, ⟨rc0, ty0, fr0, rest0, g0, e0⟩, rc1, ty1, fr1, rest1, g1, e1⟩ := hraw.raw
  obtain ⟨rfl, _, rfl⟩ := slV_inj y0
  obtain ⟨rfl, _, rfl⟩ := slV_inj y1
  have hc0 : t.np ≤ c0 := hc0
  let x := xW tri s0 s1 z
  let o : Nat → Value := fun j => if j = 0 then sv else .nilFunc
  have oo : ∀ j, oneV (o j) := fun j => by show oneV (if j = 0 then sv else .nilFunc); split; exact hsv; trivial
  let st : Nat → Info := fun n => if n = 32 then { blk := b0, size := c0, unit := 1 } else if n = 33 then { blk := b1, size := c1, unit := 1 } else { blk := b2, size := c2, unit := 1 }
  let B : Base := { toMem := M1, sym := symX x o t.tab, stat := st }
  have hone : ∀ i, oneV (B.sym i) := fun i => symX_one oo i
  have hC0 : ∀ fs, FactsHold x fs → CXOk B x o (cxW t fs) := fun fs hfs => ⟨fun _ _ _ => rfl, xW_bd htri h0 h1 hz, hfs, (fun r hr => by cases hr), (fun p hp => by cases hp), oo, hg.pow _ _, hg.tabs⟩
  have hC := hC0 [] (fact_nil _)
  have sy0 : B.sym 0 = .int .i64 tri := by
    obtain ⟨e, he, hs⟩ := tabHas_get o1 0 _ rfl
    have := symX_int (x := x) (o := o) he hs
    rw [ev_P0] at this
    exact this
  have sy1 : B.sym 1 = sv := by
    obtain ⟨e, he, hs⟩ := tabHas_get o1 1 _ rfl
    exact symX_opq (x := x) (o := o) he hs
  have stat : ∀ E, StatOk B E → ∀ n, 32 ≤ n → n < 64 → E.at_ n = some (st n) := fun E hE n h1 h2 => hE.stat n h1 h2
  have vP : ∀ E, StatOk B E → VR E (slP t.np) (slV b0 t.np c0) := fun E hE => ⟨_, stat E hE 32 (by omega) (by omega), by
    show slV b0 t.np c0 = .slice (some ⟨b0, 0, none⟩) t.np (capOf { blk := b0, size := c0, unit := 1 } 0 (2 * t.np + 1))
    rw [capOf_stat hc0]; rfl⟩
  have vT : ∀ E, StatOk B E → VR E (slT t.nt) (slV b1 t.nt c1) := fun E hE => ⟨_, stat E hE 33 (by omega) (by omega), by
    show slV b1 t.nt c1 = .slice (some ⟨b1, 0, none⟩) t.nt (capOf { blk := b1, size := c1, unit := 1 } 0 (2 * t.nt + 1))
    rw [capOf_stat hc1]; rfl⟩
  have vH : ∀ E, StatOk B E → VR E (slH t.np) (slV b2 t.np c2) := fun E hE => ⟨_, stat E hE 34 (by omega) (by omega), by
    show slV b2 t.np c2 = .slice (some ⟨b2, 0, none⟩) t.np (capOf { blk := b2, size := c2, unit := 1 } 0 (2 * t.np + 1))
    rw [capOf_stat hc2]; rfl⟩
  have vS : ∀ E, StatOk B E → VR E (.sym 1) sv := fun E hE => by show sv = E.sym 1; rw [hE.sym, sy1]
  have hK : KitOk B x o (kitW t fs r) := by
    refine ⟨hC0 fs hfs, fun f args v hv => tmk_prim (l := memoW t) ?_ hv, (fun f es he => by simp [kitW, T.get_e] at he), fun n cs hn => ?_, (fun p hp => by cases hp), (fun p hp => by cases hp), (fun p hp => by cases hp)⟩
    · intro e hem p hp
      simp only [memoW, List.mem_cons, List.not_mem_nil, or_false] at hem
      rcases hem with rfl | rfl
      · rw [List.mem_singleton.1 hp]
        exact hhist.contract (Mem.Le.refl _) (fun E hE => VRL.cons ⟨_, VRL.cons (vP E hE) (VRL.cons (vT E hE) (VRL.cons rfl (VRL.cons (vS E hE) VRL.nil))), rfl⟩ VRL.nil) (fun E hE => rfl)
      · rw [List.mem_singleton.1 hp]
        exact hmesh.contract (Mem.Le.refl _) (fun E hE => VRL.cons ⟨_, VRL.cons (vP E hE) (VRL.cons (vT E hE) VRL.nil), rfl⟩ VRL.nil) (fun E hE => rfl)
    · have hm := tmk_mem hn
      simp only [glW, List.mem_cons, List.not_mem_nil, or_false] at hm
      rcases hm with hm | hm | hm
      · cases hm
        refine ⟨by omega, by omega, (Array.getElem?_eq_some_iff.1 g0).1, zf0, rc0, ty0, fr0, g0, fun E hE => ⟨_, rest0, numsEq_ok hC hE o2, ?_⟩⟩
        rw [ptsN_val]; exact e0
      · cases hm
        exact ⟨by omega, by omega, (Array.getElem?_eq_some_iff.1 g1).1, zf1, rc1, ty1, fr1, g1, fun E hE => ⟨_, rest1, ints_ok' _, e1⟩⟩
      · cases hm
        refine ⟨by omega, by omega, (Array.getElem?_eq_some_iff.1 g2).1, zf2, rc2, ty2, fr2, g2, fun E hE => ⟨_, rest2, numsEq_ok hC hE o3, ?_⟩⟩
        rw [htsW_val _ _ _ _ _ o6]; exact e2
  let bs : List Box := [⟨p1, [slP t.np, slT t.nt, .str baseB, .sym 1, slH t.np], [slV b0 t.np c0, slV b1 t.nt c1, strB baseB, sv, slV b2 t.np c2], 46⟩]
  have hbs : BoxesOk B w1 bs := by
    refine ⟨hon, fun b hb => ?_, fun b hb E hE => ?_, fun i j x y hi hj he => ?_, fun b hb => ?_⟩
    · rw [List.mem_singleton.1 hb]; exact hp
    · rw [List.mem_singleton.1 hb]
      exact VRL.cons (vP E hE) (VRL.cons (vT E hE) (VRL.cons rfl (VRL.cons (vS E hE) (VRL.cons (vH E hE) VRL.nil))))
    · match i, j, hi, hj with
      | 0, 0, _, _ => rfl
      | n + 1, _, hi, _ => simp [bs] at hi
      | 0, n + 1, _, hj => simp [bs] at hj
    · rw [List.mem_singleton.1 hb]; exact z1
  have hok := boxes_ok (h := hone) hbs
  have hfoot : ∀ b, Foot (boxE B hone bs) (sW t triV).h.get b → b = p1 := by
    intro b hf
    obtain ⟨x, hx, rfl⟩ := boxes_foot (l := bs) hf
    rw [List.mem_singleton.1 hx]
  have htr : TR (boxE B hone bs) (sW t triV).t a.tmps := by
    intro k v hk
    have hk : ((T.e.set 1 triV).set 5 (.ptr 64 0)).get k = some v := hk
    rw [T.get_set] at hk
    by_cases c5 : k = 5
    · rw [if_pos c5] at hk; cases hk; subst c5; exact ⟨_, t5, _, boxE_at (j := 0) rfl, rfl⟩
    · rw [if_neg c5, T.get_set] at hk
      by_cases c1 : k = 1
      · rw [if_pos c1] at hk; cases hk; subst c1
        refine ⟨_, t1, ?_⟩
        rcases htv with rfl | rfl
        · show _ = B.sym 0
          rw [sy0]
        · rfl
      · rw [if_neg c1, T.get_e] at hk; cases hk
  simp only [runW, Bool.and_eq_true] at hr
  obtain ⟨hchk, hrun⟩ := hr
  split at hrun
  · rename_i rs hrs
    refine tail_wp (kitW t fs r).tabOk ((kitW t fs r).fnOk hK hchk) hrs hok htr rfl hdf (by rw [ts]; exact restL_dst) fun r hr x E' w' hx hst => ?_
    have hro := V.eq_eq _ _ (List.all_eq_true.1 hrun r hr)
    rw [hro] at hx
    refine ⟨by rw [show x = .bool true from hx], hgr.trans hst.grew, fun b hb => ?_⟩
    rw [hst.frame b (Nat.lt_of_lt_of_le hb hgr.size) (fun hf => by have := hfoot b hf; omega), hfr b hb]
  · cases hrun
theorem law_tail {w w1 : World} {a : Act} {p1 : Nat} (hon : M1.On w1) (ts : a.tmps.size = 142)
    (t1 : a.tmps[1]? = some (.int .i64 tri)) (t5 : a.tmps[5]? = some (.pointer (some ⟨p1, 0, none⟩))) (hdf : a.defers = []) (hp : w1.heap[p1]? = some (.cells #[slV b0 t.np c0, slV b1 t.nt c1, strB baseB, sv, tv] 46 (0, 0)))
    (z1 : ¬ (p1 < M1.heap.size ∧ M1.frz p1)) (hgr : Grew w w1) (hfr : ∀ b, b < w.heap.size → w1.heap[b]? = w.heap[b]?) (q1 : w.heap.size ≤ p1) :
    restL.wp Tryz.prog (bodyPost Tryz.prog Tryz.f3 (LawP w)) a w1 := by
  have hown := ht.own
  simp only [LawT.own, Bool.and_eq_true] at hown
  obtain ⟨⟨⟨⟨⟨o1, o2⟩, o3⟩, o4⟩, o5⟩, o6⟩ := hown
  have o4 := nbeq_true o4
  have o5 := nble_le o5
  have hev : Poly.ev (xW tri s0 s1 z) (P0 0) = tri := ev_P0 ..
  rcases Int.lt_or_le tri 0 with hlt | hge
  · refine law_run hg ht h0 h1 hz htri hsv hmesh hraw hhist hterr (fact_cons ?_ (fact_nil _)) ht.lo (.inl rfl) hon ts t1 t5 hdf hp z1 hgr hfr q1
    rw [hev]
    exact ⟨fun _ => rfl, fun e => by omega, fun e => by omega⟩
  · rcases Int.lt_or_le tri t.nt with hlt | hge'
    · obtain ⟨k, rfl⟩ : ∃ k : Nat, tri = Int.ofNat k := ⟨tri.toNat, by simp; omega⟩
      have hk : k < t.cs.length := by rw [o4]; exact Int.ofNat_lt.1 hlt
      have hrun := runsW_get ht.runs k _ (List.getElem?_eq_getElem hk)
      rw [Nat.zero_add] at hrun
      exact law_run hg ht h0 h1 hz htri hsv hmesh hraw hhist hterr (fact_nil _) hrun (.inr rfl) hon ts t1 t5 hdf hp z1 hgr hfr q1
    · refine law_run hg ht h0 h1 hz htri hsv hmesh hraw hhist hterr (fact_cons ?_ (fact_cons ?_ (fact_nil _))) ht.hi (.inl rfl) hon ts t1 t5 hdf hp z1 hgr hfr q1
      · rw [hev]
        exact ⟨fun e => by omega, fun e => by omega, fun _ => rfl⟩
      · have : Poly.ev (xW tri s0 s1 z) [([0], 1), ([], -(t.nt : Int))] = tri - t.nt := by
          have e : xW tri s0 s1 z 0 = tri := rfl
          simp only [Poly.ev, Poly.evM, e]
          omega
        rw [this]
        exact ⟨fun e => by omega, fun _ => rfl, fun _ => rfl⟩
end
end Go.Proofs.YtkgiaicagecmpaaGreatDoor
namespace Go.Proofs.YtkgiaicagecmpaaGreatDoor
open Go.RowKit Go Ev Klp
def QuietP (v : Value) (w : World) (e : Ending) (w' : World) : Prop := e = .returned v ∧ Grew w w' ∧ ∀ b, b < w.heap.size → w'.heap[b]? = w.heap[b]?
theorem QuietP.on {M : Mem} {v : Value} {w : World} {e : Ending} {w' : World} (h : QuietP v w e w') (hw : M.On w) : M.On w' :=
  ⟨Nat.le_trans hw.size h.2.1.size, fun b hb hz => (h.2.2 b (Nat.lt_of_lt_of_le hb hw.size)).trans (hw.same b hb hz)⟩
theorem grew_alloc (w : World) (o : Obj) : Grew w (w.alloc o) := ⟨rfl, rfl, rfl, by rw [alloc_heap, Array.size_push]; omega⟩
theorem same_alloc (w : World) (o : Obj) : ∀ b, b < w.heap.size → (w.alloc o).heap[b]? = w.heap[b]? := fun b hb => by rw [alloc_heap, Array.getElem?_push, if_neg (Nat.ne_of_lt hb)]
def planR (k s0 s1 : Int) (hf half : Bool) (ds : Value) (hv : Nat → Int) : Value :=
  .agg #[.int .u8 k, .int .i8 s0, .int .i8 s1, .bool hf, ds, .int .i8 (hv 0), .int .i8 (hv 1), .int .i8 (hv 2), .int .i8 (hv 3), .int .i8 (hv 4), .int .i8 (hv 5), .bool half]
theorem fits_walk {k s0 s1 : Int} {hf half : Bool} {b : Option Addr} {n c : Nat} {hv : Nat → Int} (w : World) :
    Calls Tryz.prog 5 #[planR k s0 s1 hf half (.slice b n c) hv] w (QuietP (.bool (decide ((n : Int) ≤ 2))) w) := by
  unfold planR
  go_enter Tryz.func5, Tryz.ntmps5
  go_wp2_with fail
  go_ret
  exact ⟨rfl, grew_alloc _ _, same_alloc _ _⟩
theorem QuietP.then {v v' : Value} {w w1 w2 : World} {e e' : Ending} (h : QuietP v w e w1) (h' : QuietP v' w1 e' w2) : QuietP v' w e' w2 :=
  ⟨h'.1, h.2.1.trans h'.2.1, fun b hb => (h'.2.2 b (Nat.lt_of_lt_of_le hb h.2.1.size)).trans (h.2.2 b hb)⟩
theorem box12 {w : World} {b t : Nat} {x0 x1 x2 x3 x4 x5 x6 x7 x8 x9 x10 x11 : Value} (h : w.heap[b]? = some (.cells #[x0, x1, x2, x3, x4, x5, x6, x7, x8, x9, x10, x11] t (0, 0))) :
    w.cell? ⟨b, 0, none⟩ = some x0 ∧ w.cell? ⟨b, 1, none⟩ = some x1 ∧ w.cell? ⟨b, 2, none⟩ = some x2 ∧ w.cell? ⟨b, 3, none⟩ = some x3 ∧ w.cell? ⟨b, 4, none⟩ = some x4 ∧ w.cell? ⟨b, 5, none⟩ = some x5 ∧ w.cell? ⟨b, 6, none⟩ = some x6 ∧ w.cell? ⟨b, 7, none⟩ = some x7 ∧ w.cell? ⟨b, 8, none⟩ = some x8 ∧ w.cell? ⟨b, 9, none⟩ = some x9 ∧ w.cell? ⟨b, 10, none⟩ = some x10 ∧ w.cell? ⟨b, 11, none⟩ = some x11 := by
  refine ⟨?_, ?_, ?_, ?_, ?_, ?_, ?_, ?_, ?_, ?_, ?_, ?_⟩ <;> (unfold World.cell?; simp only [h]; rfl)
theorem body3 : Tryz.f3.body = some ((sq1 (bodyOf Tryz.f3)).seq ((sq1 (sq2 (bodyOf Tryz.f3))).seq ((sq1 (sq2 (sq2 (bodyOf Tryz.f3)))).seq restL))) := rfl
set_option maxHeartbeats 1000000 in
set_option maxRecDepth 4000 in
theorem law_many_wp {M : Mem} {k s0 s1 : Int} {hf half : Bool} {ds : Value} {hv : Nat → Int} {tri : Int} {w : World} (hw : M.On w) (hk : ∀ w, M.On w → Calls Tryz.prog 4 #[] w (QuietP (.bool true) w))
    (hfit : ∀ w, Calls Tryz.prog 5 #[planR k s0 s1 hf half ds hv] w (QuietP (.bool false) w)) :
    Code.wp Tryz.prog ((sq1 (bodyOf Tryz.f3)).seq ((sq1 (sq2 (bodyOf Tryz.f3))).seq ((sq1 (sq2 (sq2 (bodyOf Tryz.f3)))).seq restL))) (bodyPost Tryz.prog Tryz.f3 (LawP w)) { tmps := #[.agg #[.int .u8 k, .int .i8 s0, .int .i8 s1, .bool hf, ds, .int .i8 (hv 0), .int .i8 (hv 1), .int .i8 (hv 2), .int .i8 (hv 3), .int .i8 (hv 4), .int .i8 (hv 5), .bool half], .int .i64 tri] ++ Array.replicate (142 - 2) undef, defers := [] } w := by
  have K := Lib.hid hk; clear hk
  have F := Lib.hid hfit; clear hfit
  have HW := Lib.hid hw; clear hw
  generalize restL = rest at *
  simp only [sq1, sq2, bodyOf, Tryz.f3, Option.getD_some, List.size_toArray, List.length_cons, List.length_nil, Nat.reduceAdd, Nat.reduceSub, Array.replicate_succ, Array.replicate_zero, List.push_toArray, List.append_toArray, List.nil_append, List.cons_append]
  go_wp2_with fail
  refine (K.out _ (On.alloc HW.out _)).mono ?_
  intro e w1 h1
  have hon1 := Lib.hid (h1.on (On.alloc HW.out _))
  have e1 := h1.1
  have hb := (h1.2.2 w.heap.size (by rw [alloc_heap, Array.size_push]; omega)).trans (show (w.alloc _).heap[w.heap.size]? = _ from by rw [alloc_heap, Array.getElem?_push, if_pos rfl])
  obtain ⟨c0, c1, c2, c3, c4, c5, c6, c7, c8, c9, c10, c11⟩ := box12 hb
  have H1 := Lib.hid h1; clear h1
  have HB := Lib.hid hb; clear hb
  subst e1
  go_wp2_with fail
  refine (F.out _).mono ?_
  intro e w2 h2
  have h12 := H1.out.then h2
  have e2 := h2.1
  have H2 := Lib.hid h12; clear h12 h2
  clear c0 c1 c2 c3 c4 c5 c6 c7 c8 c9 c10 c11
  subst e2
  go_wp2_with fail
  refine (K.out _ (H2.out.on (On.alloc HW.out _))).mono ?_
  intro e w3 h3
  have h23 := H2.out.then h3
  have e3 := h3.1
  have H3 := Lib.hid h23; clear h23 h3
  subst e3
  go_wp2_with fail
  go_ret
  exact ⟨rfl, (grew_alloc _ _).trans H3.out.2.1, fun b hb => (H3.out.2.2 b (by rw [alloc_heap, Array.size_push]; omega)).trans (same_alloc _ _ b hb)⟩
set_option maxHeartbeats 1000000 in
set_option maxRecDepth 4000 in
theorem law_few_wp {M : Mem} {k s0 s1 : Int} {hf half : Bool} {ds : Value} {hv : Nat → Int} {tri : Int} {w : World} (hw : M.On w) (hk : ∀ w, M.On w → Calls Tryz.prog 4 #[] w (QuietP (.bool true) w))
    (hfit : ∀ w, Calls Tryz.prog 5 #[planR k s0 s1 hf half ds hv] w (QuietP (.bool true) w)) {np nt : Nat} {X : Value → Value → Mem → Prop} {z : Nat → Int} (hm : ∀ w, M.On w → Calls Tryz.prog 6 #[planR k s0 s1 hf half ds hv] w (RetM M w (Post34 np nt X z)))
    {QQ : Exit → Act → World → Prop} (hQ : ∀ (M1 : Mem) (b0 c0 b1 c1 : Nat) (sv tv : Value) (p1 : Nat) (a : Act) (w1 : World), M1.On w1 → a.tmps.size = 142 → a.tmps[1]? = some (.int .i64 tri) → a.tmps[5]? = some (.pointer (some ⟨p1, 0, none⟩)) → a.defers = [] →
      w1.heap[p1]? = some (.cells #[slV b0 np c0, slV b1 nt c1, strB baseB, sv, tv] 46 (0, 0)) → ¬ (p1 < M1.heap.size ∧ M1.frz p1) → M.Le M1 → Grew w w1 → (∀ b, b < w.heap.size → w1.heap[b]? = w.heap[b]?) → w.heap.size ≤ p1 → oneV sv →
      CallOk Tryz.prog M1 45 [.agg #[slV b0 np c0, slV b1 nt c1]] (.int .i64 0) → X (slV b0 np c0) (slV b1 nt c1) M1 → CallOk Tryz.prog M1 63 [.agg #[slV b0 np c0, slV b1 nt c1, strB baseB, sv]] (.int .i64 0) → TerrRaw M1 np z tv → restL.wp Tryz.prog QQ a w1) :
    Code.wp Tryz.prog ((sq1 (bodyOf Tryz.f3)).seq ((sq1 (sq2 (bodyOf Tryz.f3))).seq ((sq1 (sq2 (sq2 (bodyOf Tryz.f3)))).seq restL))) QQ { tmps := #[.agg #[.int .u8 k, .int .i8 s0, .int .i8 s1, .bool hf, ds, .int .i8 (hv 0), .int .i8 (hv 1), .int .i8 (hv 2), .int .i8 (hv 3), .int .i8 (hv 4), .int .i8 (hv 5), .bool half], .int .i64 tri] ++ Array.replicate (142 - 2) undef, defers := [] } w := by
  have K := Lib.hid hk; clear hk
  have F := Lib.hid hfit; clear hfit
  have HW := Lib.hid hw; clear hw
  have HM := Lib.hid hm; clear hm
  have HQ := Lib.hid hQ; clear hQ
  generalize restL = rest at *
  simp only [sq1, sq2, bodyOf, Tryz.f3, Option.getD_some, List.size_toArray, List.length_cons, List.length_nil, Nat.reduceAdd, Nat.reduceSub, Array.replicate_succ, Array.replicate_zero, List.push_toArray, List.append_toArray, List.nil_append, List.cons_append]
  go_wp2_with fail
  refine (K.out _ (On.alloc HW.out _)).mono ?_
  intro e w1 h1
  have hon1 := Lib.hid (h1.on (On.alloc HW.out _))
  have e1 := h1.1
  have hb := (h1.2.2 w.heap.size (by rw [alloc_heap, Array.size_push]; omega)).trans (show (w.alloc _).heap[w.heap.size]? = _ from by rw [alloc_heap, Array.getElem?_push, if_pos rfl])
  obtain ⟨c0, c1, c2, c3, c4, c5, c6, c7, c8, c9, c10, c11⟩ := box12 hb
  have H1 := Lib.hid h1; clear h1
  have HB := Lib.hid hb; clear hb
  subst e1
  go_wp2_with fail
  refine (F.out _).mono ?_
  intro e w2 h2
  have h12 := H1.out.then h2
  have hb2 := (h2.2.2 w.heap.size (by have := H1.out.2.1.size; rw [alloc_heap, Array.size_push] at this; omega)).trans HB.out
  have e2 := h2.1
  have H2 := Lib.hid h12; clear h12 h2
  clear c0 c1 c2 c3 c4 c5 c6 c7 c8 c9 c10 c11
  obtain ⟨c0, c1, c2, c3, c4, c5, c6, c7, c8, c9, c10, c11⟩ := box12 hb2
  clear hb2
  subst e2
  go_wp2_with fail
  refine (HM.out _ (H2.out.on (On.alloc HW.out _))).mono ?_
  rintro e w3 ⟨y, M1, rfl, hgr, hfr, hh, hle, hz, b0, d0, b1, d1, sv, tv, rfl, ⟨sva, svn, svc, rfl⟩, hck, hX, hhist, b2, d2, rfl, hterr⟩
  clear c0 c1 c2 c3 c4 c5 c6 c7 c8 c9 c10 c11
  have HGR := Lib.hid hgr; clear hgr
  have HFR := Lib.hid hfr; clear hfr
  have HH := Lib.hid hh; clear hh
  have HLE := Lib.hid hle; clear hle
  have HZ := Lib.hid hz; clear hz
  have HCK := Lib.hid hck; clear hck
  have HX := Lib.hid hX; clear hX
  have HS := Lib.hid hhist; clear hhist
  have HT := Lib.hid hterr; clear hterr
  unfold slV strB
  go_wp2_with fail
  have hh := HH.out
  have hM1 : M1.heap.size = w3.heap.size := by rw [hh]
  have g2 := H2.out.2.1
  have g2s := g2.size
  rw [alloc_heap, Array.size_push] at g2s
  have g3s := HGR.out.size
  refine HQ.out M1 b0 d0 b1 d1 (.slice sva svn svc) (slV b2 np d2) w3.heap.size _ _ ?_ rfl rfl rfl rfl ?_ (by omega) HLE.out ?_ ?_ (by omega) trivial HCK.out HX.out HS.out ⟨b2, d2, rfl, HT.out⟩
  · exact On.alloc ⟨by omega, fun b hb _ => by rw [hh]⟩ _
  · rw [alloc_heap, Array.getElem?_push, if_pos rfl]; rfl
  · exact ((grew_alloc _ _).trans g2).trans (HGR.out.trans (grew_alloc _ _))
  · intro b hb
    rw [same_alloc _ _ b (by omega), HFR.out b (by omega), H2.out.2.2 b (by rw [alloc_heap, Array.size_push]; omega), same_alloc _ _ b hb]
section
variable {M : Mem} (hg : Good M) {k s0 s1 : Int} {hf half : Bool} {b : Option Addr} {n c : Nat} {hv : Nat → Int} {tri : Int} {w : World} (hw : M.On w) (hk : ∀ w, M.On w → Calls Tryz.prog 4 #[] w (QuietP (.bool true) w))
include hw hk
theorem law_many (hn : 2 < n) : Calls Tryz.prog 3 #[planR k s0 s1 hf half (.slice b n c) hv, .int .i64 tri] w (LawP w) := by
  refine calls_of_wp Tryz.func3 body3 ?_
  refine law_many_wp hw hk (fun w => ?_)
  have := fits_walk (k := k) (s0 := s0) (s1 := s1) (hf := hf) (half := half) (b := b) (n := n) (c := c) (hv := hv) w
  rwa [decide_eq_false (by omega)] at this
include hg
theorem law_few (hn : n ≤ 2) {t : LawT} (ht : t.Ok) {u0 u1 : Int} (h0 : -7 ≤ u0 ∧ u0 ≤ 7) (h1 : -7 ≤ u1 ∧ u1 ≤ 7) {z : Nat → Int} (hz : ∀ i, i < 6 → -38 ≤ z i ∧ z i ≤ 38) (htri : -9223372036854775808 ≤ tri ∧ tri ≤ 9223372036854775807)
    (hm : ∀ w, M.On w → Calls Tryz.prog 6 #[planR k s0 s1 hf half (.slice b n c) hv] w (RetM M w (Post34 t.np t.nt (MeshRaw t.d u0 u1 t.pts t.tris t.nt) z))) :
    Calls Tryz.prog 3 #[planR k s0 s1 hf half (.slice b n c) hv, .int .i64 tri] w (LawP w) := by
  refine calls_of_wp Tryz.func3 body3 ?_
  refine law_few_wp hw hk (fun w => ?_) hm (QQ := bodyPost Tryz.prog Tryz.f3 (LawP w)) ?_
  · have := fits_walk (k := k) (s0 := s0) (s1 := s1) (hf := hf) (half := half) (b := b) (n := n) (c := c) (hv := hv) w
    rwa [decide_eq_true (by omega)] at this
  · intro M1 b0 c0 b1 c1 sv tv p1 a w1 hon ts t1 t5 hdf hp z1 hle hgr hfr q1 hsv hck hX hhist hterr
    exact law_tail (hg.le hle) ht h0 h1 hz htri hsv hck hX hhist hterr hon ts t1 t5 hdf hp z1 hgr hfr q1
end
end Go.Proofs.YtkgiaicagecmpaaGreatDoor
