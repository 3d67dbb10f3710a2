/-
  The terrain of a plan: its tables, run by the kernel.
-/
import Derived.Test.YteempkgmaohpnaaGreatDoorMeshY
import Derived.Test.YteempkgmaohpnaaGreatDoorEvMemo
import Derived.Test.YteempkgmaohpnaaGreatDoorSymX
set_option linter.unusedSectionVars false
set_option linter.unusedVariables false
set_option linter.unusedSimpArgs false
namespace Go.Proofs.YteempkgmaohpnaaGreatDoor
open Go Ev Klp
noncomputable def rest6 : Code := sq2 (sq2 (bodyOf Tryz.f6))
def xT (hv : Nat → Int) (i : Nat) : Int := if i < 6 then hv i else if i < 12 then (hv (i - 6)).tmod 20 else 0
def bdTL : List Iv := [(-128,127),(-128,127),(-128,127),(-128,127),(-128,127),(-128,127),(-19,19),(-19,19),(-19,19),(-19,19),(-19,19),(-19,19)]
noncomputable def bdTT : T Iv := T.ofList .e 0 bdTL
def remsT : List (Poly × Nat × Poly) := [(P0 0,20,P0 6),(P0 1,20,P0 7),(P0 2,20,P0 8),(P0 3,20,P0 9),(P0 4,20,P0 10),(P0 5,20,P0 11)]
structure TerrT where
 half : Bool
 np : Nat
 tab : T SE
 d : TabsR
noncomputable def cxT (t : TerrT) : CX := ⟨t.tab,bdTT,[],remsT,[(6,t.np)]⟩
noncomputable def kitT (t : TerrT) : Kit := ⟨cxT t,t.d.bins,t.d.convs,t.d.rows,.e,.e,.e,⟨[],[],[]⟩⟩
def htsN (half : Bool) (np : Nat) : List Num := (List.range np).map fun i => ⟨[([6 + i],cond half 1 2)],2⟩
noncomputable def sT (half : Bool) : S :=
 {t := ((T.e.set 1 (.ptr 65 0)).set 2 (.ptr 66 0)).set 3 (.ptr 64 0)
  h := (((T.e : H).set 64 (.cells [.sym 6,.sym 7,.str baseB,.sym 8] 44 0 false)).set 65
   (.cells [.sym 9,.sym 10,.sym 11,.sym 12,.sym 13,.sym 0,.sym 1,.sym 2,.sym 3,.sym 4,.sym 5,.bool half] 33 0 false)).set 66
   (.cells [.nils,.nils,.str [],.nils,.nils] 48 0 false)
  nx := 67
  m := [] }
noncomputable def okTR (t : TerrT) (r : R3) : Bool :=
 match r.1 with
 | .agg [a,b,c,d,.slice n 0 k cap] => V.eq a (.sym 6) && V.eq b (.sym 7) && V.eq c (.str baseB) && V.eq d (.sym 8) && Nat.beq k t.np && Nat.ble k (cap / 2) && (match r.2.1.get n with
  | some (.cells cs _ _ _) => numsEq (cxT t) (htsN t.half t.np) cs
  | _ => false)
 | _ => false
def tabT0 : List SE := [.int .i8 (P0 0),.int .i8 (P0 1),.int .i8 (P0 2),.int .i8 (P0 3),.int .i8 (P0 4),.int .i8 (P0 5),.opq 0,.opq 1,.opq 2,.opq 3,.opq 4,.opq 5,.opq 6,.opq 7]
noncomputable def seEq : SE → SE → Bool
 | .int k p,.int j q => kindEq k j && Poly.same p q
 | .opq a,.opq b => Nat.beq a b
 | _,_ => false
noncomputable def tabHas (tab : T SE) : Nat → List SE → Bool
 | _,[] => true
 | k,e :: l => (match tab.get k with | some x => seEq x e | none => false) && tabHas tab (k + 1) l
noncomputable def TerrT.ok (t : TerrT) : Bool := (kitT t).chk && tabHas t.tab 0 tabT0 && (match tailRun (kitT t).tab 10000 60 Tryz.f6 rest6 (sT t.half) with
 | some rs => rs.all (okTR t)
 | none => false)
end Go.Proofs.YteempkgmaohpnaaGreatDoor
namespace Go.Proofs.YteempkgmaohpnaaGreatDoor
open Go.RowKit Go Ev Klp
def zT (half : Bool) (hv : Nat → Int) (i : Nat) : Int := (cond half 1 2) * (hv i).tmod 20
def htsR (np : Nat) (z : Nat → Int) : List Value := (List.range np).map fun i => strV (canon ((z i : Rat) / ((2 : Int) : Rat)))
def TerrRaw (M : Mem) (np : Nat) (z : Nat → Int) (tv : Value) : Prop := ∃ b c,tv = slV b np c ∧ np ≤ c ∧ M.frz b ∧ ∃ rc t fr rest,M.heap[b]? = some (.cells rc t fr) ∧ rc.toList = htsR np z ++ rest
def Post34 (np nt : Nat) (X : Value → Value → Mem → Prop) (z : Nat → Int) (y : Value) (M' : Mem) : Prop :=
 ∃ b0 c0 b1 c1 sv tv,y = .agg #[slV b0 np c0,slV b1 nt c1,strB baseB,sv,tv] ∧ (∃ a n c,sv = Value.slice a n c) ∧ CallOk Tryz.prog M' 29 [.agg #[slV b0 np c0,slV b1 nt c1]] (.int .i64 0) ∧ X (slV b0 np c0) (slV b1 nt c1) M' ∧
  HistR M' (slV b0 np c0) (slV b1 nt c1) sv ∧ TerrRaw M' np z tv
structure HeightsOk (hv : Nat → Int) : Prop where
 small : ∀ i,i < 6 → -128 ≤ hv i ∧ hv i ≤ 127
theorem xT_bd {hv : Nat → Int} (h : HeightsOk hv) (v : Nat) : ((bdTT.get v).getD (0,0)).has (xT hv v) := by
 have e : xT hv v = (([hv 0,hv 1,hv 2,hv 3,hv 4,hv 5,(hv 0).tmod 20,(hv 1).tmod 20,(hv 2).tmod 20,(hv 3).tmod 20,(hv 4).tmod 20,(hv 5).tmod 20] : List Int)[v]?).getD 0 := by
  by_cases hv12 : v < 12
  ·have : v = 0 ∨ v = 1 ∨ v = 2 ∨ v = 3 ∨ v = 4 ∨ v = 5 ∨ v = 6 ∨ v = 7 ∨ v = 8 ∨ v = 9 ∨ v = 10 ∨ v = 11 := by omega
   rcases this with rfl | rfl | rfl | rfl | rfl | rfl | rfl | rfl | rfl | rfl | rfl | rfl <;> rfl
  ·unfold xT
   rw [if_neg (by omega),if_neg hv12,List.getElem?_eq_none (by simp; omega)]; rfl
 rw [e]
 have t := fun z : Int => tmod_rg (z := z) (n := 20) (by omega)
 have s := h.small
 refine bd_of (l := bdTL) ?_ v
 exact ⟨s 0 (by omega),s 1 (by omega),s 2 (by omega),s 3 (by omega),s 4 (by omega),s 5 (by omega),t _,t _,t _,t _,t _,t _,trivial⟩
theorem htsN_val (half : Bool) (hv : Nat → Int) (np : Nat) (hn : np ≤ 6) : (htsN half np).map (fun e => strV (canon (e.val (xT hv)))) = htsR np (zT half hv) := by
 simp only [htsN,htsR,List.map_map]
 refine List.map_congr_left fun i hi => ?_
 have hi := List.mem_range.1 hi
 simp only [Function.comp]
 unfold Num.val
 have e : Poly.ev (xT hv) [([6 + i],cond half 1 2)] = zT half hv i := by
  have : xT hv (6 + i) = (hv i).tmod 20 := by unfold xT; rw [if_neg (by omega),if_pos (by omega),show 6 + i - 6 = i from by omega]
  simp only [Poly.ev,Poly.evM,this,zT,Int.mul_one,Int.add_zero]
 rw [e]; rfl
theorem tabHas_get : ∀ {l : List SE} {tab : T SE} {k : Nat},tabHas tab k l = true → ∀ (i : Nat) (e : SE),l[i]? = some e → ∃ x,tab.get (k + i) = some x ∧ seEq x e = true
 | [],_,_,_,i,e,h => by simp at h
 | a :: l,tab,k,h,i,e,hi => by
  simp only [tabHas,Bool.and_eq_true] at h
  cases i with
  | zero =>
   simp at hi; subst hi
   have := h.1
   split at this
   ·rename_i x hx
    exact ⟨x,hx,this⟩
   ·cases this
  | succ i =>
   obtain ⟨x,hx,he⟩ := tabHas_get h.2 i e (by simpa using hi)
   exact ⟨x,by rw [show k + (i + 1) = k + 1 + i from by omega]; exact hx,he⟩
theorem symX_int {x : Nat → Int} {o : Nat → Value} {tab : T SE} {i : Nat} {e : SE} {k : IntKind} {p : Poly} (h : tab.get i = some e) (he : seEq e (.int k p) = true) : symX x o tab i = .int k (Poly.ev x p) := by
 unfold symX
 rw [h]
 cases e with
 | int j q =>
  simp only [seEq,Bool.and_eq_true] at he
  rw [kindEq_iff.1 he.1,← Poly.ev_same x he.2]
 | _ => cases he
theorem symX_opq {x : Nat → Int} {o : Nat → Value} {tab : T SE} {i : Nat} {e : SE} {j : Nat} (h : tab.get i = some e) (he : seEq e (.opq j) = true) : symX x o tab i = o j := by
 unfold symX
 rw [h]
 cases e with
 | opq a => rw [nbeq_true (show Nat.beq a j = true from he)]
 | _ => cases he
def oT (m0 m1 sv : Value) (pl : List Value) (j : Nat) : Value := if j = 0 then m0 else if j = 1 then m1 else if j = 2 then sv else (pl[j - 3]?).getD .nilFunc
theorem oT_one {m0 m1 sv : Value} {pl : List Value} (h0 : oneV m0) (h1 : oneV m1) (h2 : oneV sv) (h3 : ∀ x ∈ pl,oneV x) (j : Nat) : oneV (oT m0 m1 sv pl j) := by
 unfold oT
 split
 ·exact h0
 ·split
  ·exact h1
  ·split
   ·exact h2
   ·cases h : pl[j - 3]? with
    | none => trivial
    | some x => exact h3 x (List.mem_of_getElem? h)
theorem rest6_dst : dstOk 14 rest6 = true := by kernel_rfl
def hvR (hv : Nat → Int) (half : Bool) : List Value := [.int .i8 (hv 0),.int .i8 (hv 1),.int .i8 (hv 2),.int .i8 (hv 3),.int .i8 (hv 4),.int .i8 (hv 5),.bool half]
section
variable {M1 : Mem} (hg : Good M1) {t : TerrT} (ht : t.ok = true) (hn6 : t.np ≤ 6) {m0 m1 sv : Value} (hm0 : ∃ a k,m0 = Value.slice a t.np k) (hm1 : oneV m1) (hsv : oneV sv) {hv : Nat → Int} (hh : HeightsOk hv)
include hg ht hn6 hm0 hm1 hsv hh
theorem make34_tail {pl : List Value} (hpl : pl.length = 5) (hp1 : ∀ x ∈ pl,oneV x) {M : Mem} {w w1 : World} {a : Act} {p1 p2 p3 : Nat} (hon : M1.On w1) (ts : a.tmps.size = 14)
  (t1 : a.tmps[1]? = some (.pointer (some ⟨p1,0,none⟩))) (t2 : a.tmps[2]? = some (.pointer (some ⟨p2,0,none⟩))) (t3 : a.tmps[3]? = some (.pointer (some ⟨p3,0,none⟩))) (hdf : a.defers = [])
  (h1 : w1.heap[p1]? = some (.cells (pl ++ hvR hv t.half).toArray 33 (0,0))) (h2 : w1.heap[p2]? = some (.cells #[.slice none 0 0,.slice none 0 0,.string ⟨#[]⟩,.slice none 0 0,.slice none 0 0] 48 (0,0)))
  (h3 : w1.heap[p3]? = some (.cells #[m0,m1,strB baseB,sv] 44 (0,0))) (n12 : p1 ≠ p2) (n13 : p1 ≠ p3) (n23 : p2 ≠ p3)
  (z1 : ¬ (p1 < M1.heap.size ∧ M1.frz p1)) (z2 : ¬ (p2 < M1.heap.size ∧ M1.frz p2)) (z3 : ¬ (p3 < M1.heap.size ∧ M1.frz p3)) (hle : M.Le M1) (hfrz : ∀ b,M1.frz b → (b < M.heap.size ∧ M.frz b) ∨ (w.heap.size ≤ b ∧ b < w1.heap.size))
  (hgr : Grew w w1) (hfr : ∀ b,b < w.heap.size → w1.heap[b]? = w.heap[b]?) (q1 : w.heap.size ≤ p1) (q2 : w.heap.size ≤ p2) (q3 : w.heap.size ≤ p3) :
  rest6.wp Tryz.prog (bodyPost Tryz.prog Tryz.f6 (RetM M w fun y M' => ∃ tv,y = .agg #[m0,m1,strB baseB,sv,tv] ∧ M1.Le M' ∧ TerrRaw M' t.np (zT t.half hv) tv)) a w1 := by
 have om0 : oneV m0 := by obtain ⟨_,_,rfl⟩ := hm0; trivial
 simp only [TerrT.ok,Bool.and_eq_true] at ht
 obtain ⟨⟨hchk,htab⟩,hrun⟩ := ht
 let o := oT m0 m1 sv pl
 let B : Base := { toMem := M1,sym := symX (xT hv) o t.tab }
 have hone : ∀ i,oneV (B.sym i) := fun i => symX_one (oT_one om0 hm1 hsv hp1) i
 have si : ∀ i,i < 6 → B.sym i = .int .i8 (hv i) := fun i hi => by
  have hg : ∀ (q : Poly),tabT0[i]? = some (.int .i8 q) → B.sym i = .int .i8 (Poly.ev (xT hv) q) := fun q hq => by
   obtain ⟨x,hx,he⟩ := tabHas_get htab i _ hq
   rw [Nat.zero_add] at hx
   exact symX_int hx he
  have e : tabT0[i]? = some (.int .i8 (P0 i)) := by
   have : i = 0 ∨ i = 1 ∨ i = 2 ∨ i = 3 ∨ i = 4 ∨ i = 5 := by omega
   rcases this with rfl | rfl | rfl | rfl | rfl | rfl <;> rfl
  rw [hg _ e,ev_P0]
  unfold xT; rw [if_pos hi]
 have so : ∀ j,j < 8 → B.sym (6 + j) = o j := fun j hj => by
  have e : tabT0[6 + j]? = some (.opq j) := by
   have : j = 0 ∨ j = 1 ∨ j = 2 ∨ j = 3 ∨ j = 4 ∨ j = 5 ∨ j = 6 ∨ j = 7 := by omega
   rcases this with rfl | rfl | rfl | rfl | rfl | rfl | rfl | rfl <;> rfl
  obtain ⟨x,hx,he⟩ := tabHas_get htab _ _ e
  rw [Nat.zero_add] at hx
  exact symX_opq hx he
 have hC : CXOk B (xT hv) o (cxT t) := by
  refine ⟨fun _ _ _ => rfl,xT_bd hh,(fun f hf => by cases hf),(fun r hr => ?_),(fun p hp => ?_),oT_one om0 hm1 hsv hp1,hg.pow _ _,hg.tabs⟩
  ·have hr : r ∈ remsT := hr
   simp only [remsT,List.mem_cons,List.not_mem_nil,or_false] at hr
   rcases hr with rfl | rfl | rfl | rfl | rfl | rfl <;> (simp only [ev_P0]; rfl)
  ·have hp : p ∈ [(6,t.np)] := hp
   rw [List.mem_singleton.1 hp]
   obtain ⟨ad,k,e⟩ := hm0
   exact ⟨ad,k,by rw [show B.sym 6 = o 0 from so 0 (by omega)]; exact e⟩
 have hK : KitOk B (xT hv) o (kitT t) := ⟨hC,(fun f args v hv => by simp [kitT,primOf,T.get_e] at hv),(fun f es he e hm => by simp [kitT,T.get_e] at he),(fun n cs hn => by simp [kitT,T.get_e] at hn),(fun p hp => by cases hp),(fun p hp => by cases hp),(fun p hp => by cases hp)⟩
 obtain ⟨c0,c1,c2,c3,c4,rfl⟩ : ∃ a b c d e,pl = [a,b,c,d,e] := by
  match pl,hpl with
  | [a,b,c,d,e],_ => exact ⟨a,b,c,d,e,rfl⟩
 let bs : List Box := [⟨p3,[.sym 6,.sym 7,.str baseB,.sym 8],[m0,m1,strB baseB,sv],44⟩,
  ⟨p1,[.sym 9,.sym 10,.sym 11,.sym 12,.sym 13,.sym 0,.sym 1,.sym 2,.sym 3,.sym 4,.sym 5,.bool t.half],[c0,c1,c2,c3,c4] ++ hvR hv t.half,33⟩,
  ⟨p2,[.nils,.nils,.str [],.nils,.nils],[.slice none 0 0,.slice none 0 0,.string ⟨#[]⟩,.slice none 0 0,.slice none 0 0],48⟩]
 have sy : ∀ E,StatOk B E → (∀ i,i < 6 → VR E (.sym i) (.int .i8 (hv i))) ∧ (∀ j,j < 8 → VR E (.sym (6 + j)) (o j)) := fun E hE =>
  ⟨fun i hi => by show _ = E.sym i; rw [hE.sym,si i hi],fun j hj => by show _ = E.sym (6 + j); rw [hE.sym,so j hj]⟩
 have hbs : BoxesOk B w1 bs := by
  refine ⟨hon,fun b hb => ?_,fun b hb E hE => ?_,fun i j x y hi hj he => ?_,fun b hb => ?_⟩
  ·simp only [bs,List.mem_cons,List.not_mem_nil,or_false] at hb
   rcases hb with rfl | rfl | rfl
   ·exact h3
   ·exact h1
   ·exact h2
  ·obtain ⟨e1,e2⟩ := sy E hE
   simp only [bs,List.mem_cons,List.not_mem_nil,or_false] at hb
   rcases hb with rfl | rfl | rfl
   ·exact VRL.cons (e2 0 (by omega)) (VRL.cons (e2 1 (by omega)) (VRL.cons rfl (VRL.cons (e2 2 (by omega)) VRL.nil)))
   ·exact VRL.cons (e2 3 (by omega)) (VRL.cons (e2 4 (by omega)) (VRL.cons (e2 5 (by omega)) (VRL.cons (e2 6 (by omega)) (VRL.cons (e2 7 (by omega)) (VRL.cons (e1 0 (by omega)) (VRL.cons (e1 1 (by omega)) (VRL.cons (e1 2 (by omega)) (VRL.cons (e1 3 (by omega)) (VRL.cons (e1 4 (by omega)) (VRL.cons (e1 5 (by omega)) (VRL.cons rfl VRL.nil)))))))))))
   ·exact ⟨_,_,rfl,rfl,_,_,rfl,rfl,_,_,rfl,rfl,_,_,rfl,rfl,_,_,rfl,rfl,rfl⟩
  ·match i,j,hi,hj with
   | 0,0,_,_ | 1,1,_,_ | 2,2,_,_ => rfl
   | 0,1,hi,hj => simp [bs] at hi hj; subst hi; subst hj; exact absurd he.symm n13
   | 0,2,hi,hj => simp [bs] at hi hj; subst hi; subst hj; exact absurd he.symm n23
   | 1,0,hi,hj => simp [bs] at hi hj; subst hi; subst hj; exact absurd he n13
   | 1,2,hi,hj => simp [bs] at hi hj; subst hi; subst hj; exact absurd he n12
   | 2,0,hi,hj => simp [bs] at hi hj; subst hi; subst hj; exact absurd he n23
   | 2,1,hi,hj => simp [bs] at hi hj; subst hi; subst hj; exact absurd he.symm n12
   | n + 3,_,hi,_ => simp [bs] at hi
   | 0,n + 3,_,hj | 1,n + 3,_,hj | 2,n + 3,_,hj => simp [bs] at hj
  ·simp only [bs,List.mem_cons,List.not_mem_nil,or_false] at hb
   rcases hb with rfl | rfl | rfl
   ·exact z3
   ·exact z1
   ·exact z2
 have hok := boxes_ok (h := hone) hbs
 have hfoot : ∀ b,Foot (boxE B hone bs) (sT t.half).h.get b → b = p1 ∨ b = p2 ∨ b = p3 := by
  intro b hf
  obtain ⟨x,hx,rfl⟩ := boxes_foot (l := bs) hf
  simp only [bs,List.mem_cons,List.not_mem_nil,or_false] at hx
  rcases hx with rfl | rfl | rfl
  ·exact .inr (.inr rfl)
  ·exact .inl rfl
  ·exact .inr (.inl rfl)
 have htr : TR (boxE B hone bs) (sT t.half).t a.tmps := by
  intro k v hk
  have hk : (((T.e.set 1 (V.ptr 65 0)).set 2 (.ptr 66 0)).set 3 (.ptr 64 0)).get k = some v := hk
  rw [T.get_set] at hk
  by_cases c3 : k = 3
  ·rw [if_pos c3] at hk; cases hk; subst c3; exact ⟨_,t3,_,boxE_at (j := 0) rfl,rfl⟩
  ·rw [if_neg c3,T.get_set] at hk
   by_cases c2 : k = 2
   ·rw [if_pos c2] at hk; cases hk; subst c2; exact ⟨_,t2,_,boxE_at (j := 2) rfl,rfl⟩
   ·rw [if_neg c2,T.get_set] at hk
    by_cases c1 : k = 1
    ·rw [if_pos c1] at hk; cases hk; subst c1; exact ⟨_,t1,_,boxE_at (j := 1) rfl,rfl⟩
    ·rw [if_neg c1,T.get_e] at hk; cases hk
 split at hrun
 ·rename_i rs hrs
  refine tail_wp (kitT t).tabOk ((kitT t).fnOk hK hchk) hrs hok htr rfl hdf (by rw [ts]; exact rest6_dst) fun r hr x E' w' hx hst => ?_
  have hro := List.all_eq_true.1 hrun r hr
  have hok' := hok.step hst
  let M' : Mem := ⟨w'.heap,fun b => (b < M1.heap.size ∧ M1.frz b) ∨ Foot E' r.2.1.get b⟩
  have hM1 : M1.Le M' := ⟨hok'.inv.size,fun b hb hz => ⟨.inl ⟨hb,hz⟩,hok'.inv.same b hb hz⟩⟩
  unfold okTR at hro
  split at hro
  ·rename_i va vb vc vd n k cap hrv
   simp only [Bool.and_eq_true] at hro
   obtain ⟨⟨⟨⟨⟨⟨k1,k2⟩,k3⟩,k4⟩,k5⟩,k6⟩,k7⟩ := hro
   have k1 := V.eq_eq _ _ k1
   have k2 := V.eq_eq _ _ k2
   have k3 := V.eq_eq _ _ k3
   have k4 := V.eq_eq _ _ k4
   have k5 := nbeq_true k5
   have k6 := nble_le k6
   subst k1; subst k2; subst k3; subst k4
   rw [hrv] at hx
   obtain ⟨xs,⟨x0,_,rfl,hx0,x1,_,rfl,hx1,x2,_,rfl,hx2,x3,_,rfl,hx3,tv,_,rfl,htv,hxn⟩,rfl⟩ := hx
   rw [show _ = [] from hxn]
   have e0 : x0 = m0 := VR.det _ _ _ hx0 ((sy E' hok'.sym).2 0 (by omega))
   have e1 : x1 = m1 := VR.det _ _ _ hx1 ((sy E' hok'.sym).2 1 (by omega))
   have e3 : x3 = sv := VR.det _ _ _ hx3 ((sy E' hok'.sym).2 2 (by omega))
   have e2 : x2 = strB baseB := hx2
   subst e0; subst e1; subst e2; subst e3
   split at k7
   ·rename_i cs te ue ze hne
    obtain ⟨ie,hie,rfl⟩ := htv
    obtain ⟨ie',hie',hu,rc,fr,g1,g2,g3,xs,rest,hxs,hrc⟩ := hst.rel.obj _ _ hne
    rw [hie] at hie'; cases hie'
    have hnum := numsEq_ok hC hok'.sym k7
    have hxs' := VRL.det _ _ _ hxs hnum
    rw [htsN_val _ _ _ hn6] at hxs'
    refine ⟨_,M',rfl,hgr.trans hst.grew,fun b hb => ?_,rfl,hle.trans hM1,fun b hb => ?_,_,rfl,hM1,ie.blk,capOf ie 0 cap,by rw [k5]; rfl,?_,.inr ⟨n,_,ie,hne,hie,rfl⟩,rc,te,fr,rest,g1,by rw [hrc,hxs']⟩
    ·rw [hst.frame b (Nat.lt_of_lt_of_le hb hgr.size) (fun hf => by rcases hfoot b hf with rfl | rfl | rfl <;> omega),hfr b hb]
    ·rcases hb with ⟨hb,hz⟩ | hb
     ·rcases hfrz b hz with h | ⟨h,h'⟩
      ·exact .inl h
      ·exact .inr ⟨h,Nat.lt_of_lt_of_le h' hst.grew.size⟩
     ·have hlt : b < w'.heap.size := by
       obtain ⟨n,o,i,hn,hi,rfl⟩ := hb
       obtain ⟨i',hi',hob⟩ := hst.rel.obj n o hn
       rw [hi] at hi'; cases hi'
       exact hob.lt
      refine .inr ⟨?_,hlt⟩
      rcases Nat.lt_or_ge b w1.heap.size with h | h
      ·rcases hfoot b (hst.foot b h hb) with rfl | rfl | rfl <;> omega
      ·exact Nat.le_trans hgr.size h
    ·rw [← k5]
     unfold capOf
     split
     ·exact k6
     ·exact Nat.le_trans k6 (Nat.le_max_left _ _)
   ·cases k7
  ·cases hro
 ·cases hrun
end
set_option maxHeartbeats 1000000 in
theorem make34_walk {M : Mem} {np nt : Nat} {X : Value → Value → Mem → Prop} {k s0 s1 : Int} {hf half : Bool} {ds : Value} {hv : Nat → Int} {w : World} (hw : M.On w)
  (h30 : ∀ w,M.On w → Calls Tryz.prog 25 #[.agg #[.int .u8 k,.int .i8 s0,.int .i8 s1,.bool hf,ds]] w (RetM M w (Post30 np nt X))) {QQ : Exit → Act → World → Prop}
  (hQ : ∀ (M1 : Mem) (b0 c0 b1 c1 : Nat) (sv : Value) (p1 p2 p3 : Nat) (a : Act) (w1 : World),M1.On w1 → a.tmps.size = 14 → a.tmps[1]? = some (.pointer (some ⟨p1,0,none⟩)) → a.tmps[2]? = some (.pointer (some ⟨p2,0,none⟩)) → a.tmps[3]? = some (.pointer (some ⟨p3,0,none⟩)) → a.defers = [] →
   w1.heap[p1]? = some (.cells ([.int .u8 k,.int .i8 s0,.int .i8 s1,.bool hf,ds] ++ hvR hv half).toArray 33 (0,0)) →
   w1.heap[p2]? = some (.cells #[.slice none 0 0,.slice none 0 0,.string ⟨#[]⟩,.slice none 0 0,.slice none 0 0] 48 (0,0)) →
   w1.heap[p3]? = some (.cells #[slV b0 np c0,slV b1 nt c1,strB baseB,sv] 44 (0,0)) → p1 ≠ p2 → p1 ≠ p3 → p2 ≠ p3 → ¬ (p1 < M1.heap.size ∧ M1.frz p1) → ¬ (p2 < M1.heap.size ∧ M1.frz p2) → ¬ (p3 < M1.heap.size ∧ M1.frz p3) →
   M.Le M1 → (∀ b,M1.frz b → (b < M.heap.size ∧ M.frz b) ∨ (w.heap.size ≤ b ∧ b < w1.heap.size)) → Grew w w1 → (∀ b,b < w.heap.size → w1.heap[b]? = w.heap[b]?) → w.heap.size ≤ p1 → w.heap.size ≤ p2 → w.heap.size ≤ p3 → (∃ a n c,sv = Value.slice a n c) →
   CallOk Tryz.prog M1 29 [.agg #[slV b0 np c0,slV b1 nt c1]] (.int .i64 0) → X (slV b0 np c0) (slV b1 nt c1) M1 →
   HistR M1 (slV b0 np c0) (slV b1 nt c1) sv → rest6.wp Tryz.prog QQ a w1) :
  Code.wp Tryz.prog ((sq1 (bodyOf Tryz.f6)).seq ((sq1 (sq2 (bodyOf Tryz.f6))).seq rest6)) QQ
   { tmps := #[.agg #[.int .u8 k,.int .i8 s0,.int .i8 s1,.bool hf,ds,.int .i8 (hv 0),.int .i8 (hv 1),.int .i8 (hv 2),.int .i8 (hv 3),.int .i8 (hv 4),.int .i8 (hv 5),.bool half]] ++ Array.replicate (14 - 1) undef,defers := [] } w := by
 have H30 := Lib.hid h30; clear h30
 have HQ := Lib.hid hQ; clear hQ
 have HW := Lib.hid hw; clear hw
 generalize rest6 = rest at *
 simp only [sq1,sq2,bodyOf,Tryz.f6,Option.getD_some,List.size_toArray,List.length_cons,List.length_nil,Nat.reduceAdd,Nat.reduceSub,Array.replicate_succ,Array.replicate_zero,List.push_toArray,List.append_toArray,List.nil_append,List.cons_append]
 go_wp2_with fail
 refine (H30.out _ (On.alloc (On.alloc HW.out _) _)).mono ?_
 rintro e w' ⟨y,M1,rfl,hgr,hfr,hh,hle,hz,b0,c0,b1,c1,sv,rfl,h1v,hck,hX,hhist⟩
 obtain ⟨sva,svn,svc,rfl⟩ := h1v
 have HGR := Lib.hid hgr; clear hgr
 have HFR := Lib.hid hfr; clear hfr
 have HH := Lib.hid hh; clear hh
 have HLE := Lib.hid hle; clear hle
 have HZ := Lib.hid hz; clear hz
 have HCK := Lib.hid hck; clear hck
 have HX := Lib.hid hX; clear hX
 have HS := Lib.hid hhist; clear hhist
 unfold slV strB
 go_wp2_with fail
 have hgr := HGR.out
 have hfr := HFR.out
 have hh := HH.out
 have hle := HLE.out
 have hz := HZ.out
 have hwo := HW.out
 have sz : ∀ (w : World) (o : Obj),(w.alloc o).heap.size = w.heap.size + 1 := fun w o => by rw [alloc_heap,Array.size_push]
 have old : ∀ (w : World) (o : Obj) (b : Nat),b < w.heap.size → (w.alloc o).heap[b]? = w.heap[b]? := fun w o b hb => by rw [alloc_heap,Array.getElem?_push,if_neg (Nat.ne_of_lt hb)]
 have new : ∀ (w : World) (o : Obj),(w.alloc o).heap[w.heap.size]? = some o := fun w o => by rw [alloc_heap,Array.getElem?_push,if_pos rfl]
 have hsz := hgr.size
 rw [sz,sz] at hsz
 have hM1 : M1.heap.size = w'.heap.size := by rw [hh]
 have n1 : ¬ (w.heap.size < M1.heap.size ∧ M1.frz w.heap.size) := fun ⟨_,h⟩ => by
  rcases hz _ h with ⟨h,_⟩ | ⟨h,_⟩
  ·have := hwo.size; omega
  ·rw [sz,sz] at h; omega
 have n2 : ¬ (w.heap.size + 1 < M1.heap.size ∧ M1.frz (w.heap.size + 1)) := fun ⟨_,h⟩ => by
  rcases hz _ h with ⟨h,_⟩ | ⟨h,_⟩
  ·have := hwo.size; omega
  ·rw [sz,sz] at h; omega
 refine HQ.out M1 b0 c0 b1 c1 _ w.heap.size (w.heap.size + 1) w'.heap.size _ _ ?_ rfl rfl rfl rfl rfl ?_ ?_ ?_ (by omega) (by omega) (by omega) n1 n2 (by omega) hle ?_ ?_ ?_ (by omega) (by omega) (by omega) ⟨sva,svn,svc,rfl⟩ HCK.out HX.out HS.out
 ·refine On.alloc ⟨by omega,fun b hb _ => by rw [hh]⟩ _
 ·rw [old _ _ _ (by omega),hfr _ (by rw [sz,sz]; omega),old _ _ _ (by rw [sz]; omega),new]
  rfl
 ·rw [old _ _ _ (by omega),hfr _ (by rw [sz,sz]; omega)]
  have := new (w.alloc (Obj.cells #[Value.int IntKind.u8 k,Value.int IntKind.i8 s0,Value.int IntKind.i8 s1,Value.bool hf,ds,.int .i8 (hv 0),.int .i8 (hv 1),.int .i8 (hv 2),.int .i8 (hv 3),.int .i8 (hv 4),.int .i8 (hv 5),.bool half] 33)) (Obj.cells #[Value.slice none 0 0,Value.slice none 0 0,Value.string ⟨#[]⟩,Value.slice none 0 0,Value.slice none 0 0] 48)
  rw [sz] at this
  exact this
 ·exact new _ _
 ·intro b hb
  rcases hz b hb with h | ⟨h,h'⟩
  ·exact .inl h
  ·rw [sz,sz] at h
   exact .inr ⟨by omega,by rw [sz]; omega⟩
 ·exact ⟨hgr.tape,hgr.os,hgr.output,by rw [sz]; omega⟩
 ·intro b hb
  rw [old _ _ _ (by omega),hfr _ (by rw [sz,sz]; omega),old _ _ _ (by rw [sz]; omega),old _ _ _ hb]
theorem body34 : Tryz.f6.body = some ((sq1 (bodyOf Tryz.f6)).seq ((sq1 (sq2 (bodyOf Tryz.f6))).seq rest6)) := rfl
theorem make34 {M : Mem} (hg : Good M) {np nt : Nat} {X : Value → Value → Mem → Prop} (hX : ∀ m0 m1 M M',M.Le M' → X m0 m1 M → X m0 m1 M') {k s0 s1 : Int} {hf : Bool} {ds : Value} (hds : oneV ds) {hv : Nat → Int} (hh : HeightsOk hv) {w : World} (hw : M.On w)
  (h30 : ∀ w,M.On w → Calls Tryz.prog 25 #[.agg #[.int .u8 k,.int .i8 s0,.int .i8 s1,.bool hf,ds]] w (RetM M w (Post30 np nt X)))
  {t : TerrT} (ht : t.ok = true) (hn : t.np = np) (hn6 : np ≤ 6) :
  Calls Tryz.prog 6 #[.agg #[.int .u8 k,.int .i8 s0,.int .i8 s1,.bool hf,ds,.int .i8 (hv 0),.int .i8 (hv 1),.int .i8 (hv 2),.int .i8 (hv 3),.int .i8 (hv 4),.int .i8 (hv 5),.bool t.half]] w (RetM M w (Post34 np nt X (zT t.half hv))) := by
 subst hn
 refine calls_of_wp Tryz.func6 body34 ?_
 refine make34_walk hw h30 (QQ := bodyPost Tryz.prog Tryz.f6 (RetM M w (Post34 t.np nt X (zT t.half hv)))) ?_
 intro M1 b0 c0 b1 c1 sv p1 p2 p3 a w1 hon ts t1 t2 t3 hdf h1 h2 h3 n12 n13 n23 z1 z2 z3 hle hz hgr hfr q1 q2 q3 hsv hck hx hhist
 have := make34_tail (m0 := slV b0 t.np c0) (m1 := slV b1 nt c1) (hg.le hle) ht hn6 ⟨_,_,rfl⟩ trivial (by obtain ⟨_,_,_,rfl⟩ := hsv; trivial) hh (pl := [.int .u8 k,.int .i8 s0,.int .i8 s1,.bool hf,ds]) rfl
  (by intro x hx; simp only [List.mem_cons,List.not_mem_nil,or_false] at hx; rcases hx with rfl | rfl | rfl | rfl | rfl <;> first | trivial | exact hds) hon ts t1 t2 t3 hdf h1 h2 h3 n12 n13 n23 z1 z2 z3 hle hz hgr hfr q1 q2 q3
 refine wp_mono this fun e a w h => bodyPost_mono ?_ h
 rintro e w' ⟨y,M',rfl,g1,g2,g3,g4,g5,tv,rfl,g6,g7⟩
 exact ⟨_,M',rfl,g1,g2,g3,g4,g5,b0,c0,b1,c1,sv,tv,rfl,hsv,hck.le g6,hX _ _ _ _ g6 hx,hhist.le g6,g7⟩
end Go.Proofs.YteempkgmaohpnaaGreatDoor
namespace Go.Proofs.YteempkgmaohpnaaGreatDoor
open Go Ev Klp Ab
set_option maxRecDepth 100000
noncomputable def te03 : TerrT := ⟨false,3,(c (c (c (b (l (i 6)) (.opq 1)) (i8 3) (b (l (n 7)) (.opq 5))) (i8 1) (c (b (l (i 1)) (.opq 3)) (i8 5) (b (l (i 8)) (.opq 7)))) (i8 0) (c (c (b (l (n 6)) (.opq 2)) (i8 4) (b (l (i 2)) (.opq 6))) (i8 2) (c (b (l (i 7)) (.opq 4)) (.opq 0) (b (l (n 8)) (i 0))))),
 ⟨[⟨.rem,.sym 14,g 20,.sym 15⟩,⟨.rem,.sym 17,g 20,.sym 18⟩,⟨.rem,.sym 20,g 20,.sym 21⟩],[⟨0,.i64,.sym 14⟩,⟨1,.i64,.sym 17⟩,⟨2,.i64,.sym 20⟩],(q (q (p (q (q (l (l [([.sym 15,g 1],.sym 16),([.sym 18,g 1],.sym 19),([.sym 21,g 1],.sym 22)])))))))⟩⟩
theorem te03_ok : te03.ok = true := by kernel_rfl
noncomputable def te04 : TerrT := ⟨false,4,(c (c (c (c (l (i 6)) (.opq 1) (l (i 3))) (i8 3) (b (l (n 7)) (.opq 5))) (i8 1) (c (c (l (i 1)) (.opq 3) (l (n 9))) (i8 5) (b (l (i 8)) (.opq 7)))) (i8 0) (c (c (c (l (n 6)) (.opq 2) (l (i 9))) (i8 4) (b (l (i 2)) (.opq 6))) (i8 2) (c (b (l (i 7)) (.opq 4)) (.opq 0) (b (l (n 8)) (i 0))))),
 ⟨[⟨.rem,.sym 14,g 20,.sym 15⟩,⟨.rem,.sym 17,g 20,.sym 18⟩,⟨.rem,.sym 20,g 20,.sym 21⟩,⟨.rem,.sym 23,g 20,.sym 24⟩],[⟨0,.i64,.sym 14⟩,⟨1,.i64,.sym 17⟩,⟨2,.i64,.sym 20⟩,⟨3,.i64,.sym 23⟩],(q (q (p (q (q (l (l [([.sym 15,g 1],.sym 16),([.sym 18,g 1],.sym 19),([.sym 21,g 1],.sym 22),([.sym 24,g 1],.sym 25)])))))))⟩⟩
theorem te04_ok : te04.ok = true := by kernel_rfl
noncomputable def te05 : TerrT := ⟨false,5,(c (c (c (c (l (i 6)) (.opq 1) (l (i 3))) (i8 3) (c (l (n 7)) (.opq 5) (l (i 10)))) (i8 1) (c (c (l (i 1)) (.opq 3) (l (n 9))) (i8 5) (b (l (i 8)) (.opq 7)))) (i8 0) (c (c (c (l (n 6)) (.opq 2) (l (i 9))) (i8 4) (c (l (i 2)) (.opq 6) (l (n 10)))) (i8 2) (c (c (l (i 7)) (.opq 4) (l (i 4))) (.opq 0) (b (l (n 8)) (i 0))))),
 ⟨[⟨.rem,.sym 14,g 20,.sym 15⟩,⟨.rem,.sym 17,g 20,.sym 18⟩,⟨.rem,.sym 20,g 20,.sym 21⟩,⟨.rem,.sym 23,g 20,.sym 24⟩,⟨.rem,.sym 26,g 20,.sym 27⟩],[⟨0,.i64,.sym 14⟩,⟨1,.i64,.sym 17⟩,⟨2,.i64,.sym 20⟩,⟨3,.i64,.sym 23⟩,⟨4,.i64,.sym 26⟩],(q (q (p (q (q (l (l [([.sym 15,g 1],.sym 16),([.sym 18,g 1],.sym 19),([.sym 21,g 1],.sym 22),([.sym 24,g 1],.sym 25),([.sym 27,g 1],.sym 28)])))))))⟩⟩
theorem te05_ok : te05.ok = true := by kernel_rfl
noncomputable def te06 : TerrT := ⟨false,6,(c (c (c (c (b (l (n 11)) (i 6)) (.opq 1) (l (i 3))) (i8 3) (c (l (n 7)) (.opq 5) (l (i 10)))) (i8 1) (c (c (l (i 1)) (.opq 3) (l (n 9))) (i8 5) (c (l (i 8)) (.opq 7) (l (i 5))))) (i8 0) (c (c (c (l (n 6)) (.opq 2) (l (i 9))) (i8 4) (c (l (i 2)) (.opq 6) (l (n 10)))) (i8 2) (c (c (l (i 7)) (.opq 4) (l (i 4))) (.opq 0) (c (l (n 8)) (i 0) (l (i 11)))))),
 ⟨[⟨.rem,.sym 14,g 20,.sym 15⟩,⟨.rem,.sym 17,g 20,.sym 18⟩,⟨.rem,.sym 20,g 20,.sym 21⟩,⟨.rem,.sym 23,g 20,.sym 24⟩,⟨.rem,.sym 26,g 20,.sym 27⟩,⟨.rem,.sym 29,g 20,.sym 30⟩],[⟨0,.i64,.sym 14⟩,⟨1,.i64,.sym 17⟩,⟨2,.i64,.sym 20⟩,⟨3,.i64,.sym 23⟩,⟨4,.i64,.sym 26⟩,⟨5,.i64,.sym 29⟩],(q (q (p (q (q (l (l [([.sym 15,g 1],.sym 16),([.sym 18,g 1],.sym 19),([.sym 21,g 1],.sym 22),([.sym 24,g 1],.sym 25),([.sym 27,g 1],.sym 28),([.sym 30,g 1],.sym 31)])))))))⟩⟩
theorem te06_ok : te06.ok = true := by kernel_rfl
noncomputable def te13 : TerrT := ⟨true,3,(c (c (c (b (l (i 6)) (.opq 1)) (i8 3) (b (l (k [(7,1)] 2)) (.opq 5))) (i8 1) (c (b (l (i 1)) (.opq 3)) (i8 5) (b (l (i 8)) (.opq 7)))) (i8 0) (c (c (b (l (k [(6,1)] 2)) (.opq 2)) (i8 4) (b (l (i 2)) (.opq 6))) (i8 2) (c (b (l (i 7)) (.opq 4)) (.opq 0) (b (l (k [(8,1)] 2)) (i 0))))),
 ⟨[⟨.rem,.sym 14,g 20,.sym 15⟩,⟨.rem,.sym 17,g 20,.sym 18⟩,⟨.rem,.sym 20,g 20,.sym 21⟩],[⟨0,.i64,.sym 14⟩,⟨1,.i64,.sym 17⟩,⟨2,.i64,.sym 20⟩],(q (q (p (q (q (l (l [([.sym 15,g 2],.sym 16),([.sym 18,g 2],.sym 19),([.sym 21,g 2],.sym 22)])))))))⟩⟩
theorem te13_ok : te13.ok = true := by kernel_rfl
noncomputable def te14 : TerrT := ⟨true,4,(c (c (c (c (l (i 6)) (.opq 1) (l (i 3))) (i8 3) (b (l (k [(7,1)] 2)) (.opq 5))) (i8 1) (c (c (l (i 1)) (.opq 3) (l (k [(9,1)] 2))) (i8 5) (b (l (i 8)) (.opq 7)))) (i8 0) (c (c (c (l (k [(6,1)] 2)) (.opq 2) (l (i 9))) (i8 4) (b (l (i 2)) (.opq 6))) (i8 2) (c (b (l (i 7)) (.opq 4)) (.opq 0) (b (l (k [(8,1)] 2)) (i 0))))),
 ⟨[⟨.rem,.sym 14,g 20,.sym 15⟩,⟨.rem,.sym 17,g 20,.sym 18⟩,⟨.rem,.sym 20,g 20,.sym 21⟩,⟨.rem,.sym 23,g 20,.sym 24⟩],[⟨0,.i64,.sym 14⟩,⟨1,.i64,.sym 17⟩,⟨2,.i64,.sym 20⟩,⟨3,.i64,.sym 23⟩],(q (q (p (q (q (l (l [([.sym 15,g 2],.sym 16),([.sym 18,g 2],.sym 19),([.sym 21,g 2],.sym 22),([.sym 24,g 2],.sym 25)])))))))⟩⟩
theorem te14_ok : te14.ok = true := by kernel_rfl
noncomputable def te15 : TerrT := ⟨true,5,(c (c (c (c (l (i 6)) (.opq 1) (l (i 3))) (i8 3) (c (l (k [(7,1)] 2)) (.opq 5) (l (i 10)))) (i8 1) (c (c (l (i 1)) (.opq 3) (l (k [(9,1)] 2))) (i8 5) (b (l (i 8)) (.opq 7)))) (i8 0) (c (c (c (l (k [(6,1)] 2)) (.opq 2) (l (i 9))) (i8 4) (c (l (i 2)) (.opq 6) (l (k [(10,1)] 2)))) (i8 2) (c (c (l (i 7)) (.opq 4) (l (i 4))) (.opq 0) (b (l (k [(8,1)] 2)) (i 0))))),
 ⟨[⟨.rem,.sym 14,g 20,.sym 15⟩,⟨.rem,.sym 17,g 20,.sym 18⟩,⟨.rem,.sym 20,g 20,.sym 21⟩,⟨.rem,.sym 23,g 20,.sym 24⟩,⟨.rem,.sym 26,g 20,.sym 27⟩],[⟨0,.i64,.sym 14⟩,⟨1,.i64,.sym 17⟩,⟨2,.i64,.sym 20⟩,⟨3,.i64,.sym 23⟩,⟨4,.i64,.sym 26⟩],(q (q (p (q (q (l (l [([.sym 15,g 2],.sym 16),([.sym 18,g 2],.sym 19),([.sym 21,g 2],.sym 22),([.sym 24,g 2],.sym 25),([.sym 27,g 2],.sym 28)])))))))⟩⟩
theorem te15_ok : te15.ok = true := by kernel_rfl
noncomputable def te16 : TerrT := ⟨true,6,(c (c (c (c (b (l (k [(11,1)] 2)) (i 6)) (.opq 1) (l (i 3))) (i8 3) (c (l (k [(7,1)] 2)) (.opq 5) (l (i 10)))) (i8 1) (c (c (l (i 1)) (.opq 3) (l (k [(9,1)] 2))) (i8 5) (c (l (i 8)) (.opq 7) (l (i 5))))) (i8 0) (c (c (c (l (k [(6,1)] 2)) (.opq 2) (l (i 9))) (i8 4) (c (l (i 2)) (.opq 6) (l (k [(10,1)] 2)))) (i8 2) (c (c (l (i 7)) (.opq 4) (l (i 4))) (.opq 0) (c (l (k [(8,1)] 2)) (i 0) (l (i 11)))))),
 ⟨[⟨.rem,.sym 14,g 20,.sym 15⟩,⟨.rem,.sym 17,g 20,.sym 18⟩,⟨.rem,.sym 20,g 20,.sym 21⟩,⟨.rem,.sym 23,g 20,.sym 24⟩,⟨.rem,.sym 26,g 20,.sym 27⟩,⟨.rem,.sym 29,g 20,.sym 30⟩],[⟨0,.i64,.sym 14⟩,⟨1,.i64,.sym 17⟩,⟨2,.i64,.sym 20⟩,⟨3,.i64,.sym 23⟩,⟨4,.i64,.sym 26⟩,⟨5,.i64,.sym 29⟩],(q (q (p (q (q (l (l [([.sym 15,g 2],.sym 16),([.sym 18,g 2],.sym 19),([.sym 21,g 2],.sym 22),([.sym 24,g 2],.sym 25),([.sym 27,g 2],.sym 28),([.sym 30,g 2],.sym 31)])))))))⟩⟩
theorem te16_ok : te16.ok = true := by kernel_rfl
end Go.Proofs.YteempkgmaohpnaaGreatDoor
