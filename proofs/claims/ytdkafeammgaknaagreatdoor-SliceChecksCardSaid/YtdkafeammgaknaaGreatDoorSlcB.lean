/-
  klippelaw32.SliceChecks behind the changes: its answers, by the evaluator.
-/
import Derived.Test.YtdkafeammgaknaaGreatDoorChgE
import Derived.Test.YtdkafeammgaknaaGreatDoorDealR
import Derived.Test.YtdkafeammgaknaaGreatDoorEvMemo
import Derived.Test.YtdkafeammgaknaaGreatDoorSimA
set_option linter.unusedSectionVars false
set_option linter.unusedVariables false
set_option linter.unusedSimpArgs false
namespace Go.Proofs.YtdkafeammgaknaaGreatDoor
open Go Ev Klp
def bk (l : List (List V × V)) : T (List (List V × V)) := .n .e (some l) .e
def pD (v w : Nat) : Poly := psub (P0 v) (P0 w)
def pA : Poly := psub (Poly.mul (pD 2 0) (pD 5 1)) (Poly.mul (pD 3 1) (pD 4 0))
def numL (l : List Poly) : List SE := l.map fun p => .num ⟨p,1⟩
def tabTu : List SE := numL [P0 0,P0 1,P0 2,P0 3,P0 4,P0 5,pD 2 0,pD 3 1,pD 4 0,pD 5 1,Poly.mul (pD 2 0) (pD 5 1),Poly.mul (pD 3 1) (pD 4 0),pA] ++ [.sgn pA,.sgn (pD 0 2),.sgn (pD 1 3)]
def rg128 : Iv := (-128,128)
def bdTu : List Iv := [rg128,rg128,rg128,rg128,rg128,rg128]
noncomputable def cxTu (fs : Facts) : CX := ⟨T.ofList .e 0 tabTu,T.ofList .e 0 bdTu,fs,[],[]⟩
noncomputable def rowsTu : Rows := (((((T.e : Rows).set 103 (bk [([.sym 2,.sym 0],.sym 6),([.sym 3,.sym 1],.sym 7),([.sym 4,.sym 0],.sym 8),([.sym 5,.sym 1],.sym 9),([.sym 10,.sym 11],.sym 12)])).set
 101 (bk [([.sym 6,.sym 9],.sym 10),([.sym 7,.sym 8],.sym 11)])).set 73 (bk [([.sym 12],.sym 13)])).set 75 (bk [([.sym 0,.sym 2],.sym 14),([.sym 1,.sym 3],.sym 15)])).set
 45 (bk [([.sym 0],.int .i64 0),([.sym 1],.int .i64 0)])
noncomputable def kitTu (fs : Facts) : Kit := ⟨cxTu fs,[],[],rowsTu,.e,.e,.e,⟨[],[],[]⟩⟩
def ptV (i : Nat) : V := .agg [.sym (2 * i),.sym (2 * i + 1)]
noncomputable def runTu (fs : Facts) (f : Nat) (args : List V) (v : V) : Bool := (kitTu fs).chk && memoOk (kitTu fs).tab 10000 60 f args v
theorem runTurn : runTu [] 35 [ptV 0,ptV 1,ptV 2] (.sym 13) = true := by kernel_rfl
theorem runLess0 : runTu [(pD 0 2,⟨true,false,true⟩)] 36 [ptV 0,ptV 1] (.sym 14) = true := by kernel_rfl
theorem runLess1 : runTu [(pD 0 2,⟨false,true,false⟩)] 36 [ptV 0,ptV 1] (.sym 15) = true := by kernel_rfl
theorem runPoint : runTu [] 34 [ptV 0] (.int .i64 0) = true := by kernel_rfl
theorem numsTu (fs : Facts) : numsIs (cxTu fs) [P0 0,P0 1,P0 2,P0 3,P0 4,P0 5] [.sym 0,.sym 1,.sym 2,.sym 3,.sym 4,.sym 5] = true := by kernel_rfl
def ptR (x y : Int) : Value := .agg #[numV x,numV y]
def Rg (x : Int) : Prop := -128 ≤ x ∧ x ≤ 128
def xTu (a b c d e f : Int) (v : Nat) : Int := (([a,b,c,d,e,f] : List Int)[v]?).getD 0
noncomputable def baseTu (M : Mem) (x : Nat → Int) : Base := { toMem := M,sym := symX x (fun _ => .nilFunc) (T.ofList .e 0 tabTu) }
theorem sgn_rg (z : Int) : -1 ≤ sgnI z ∧ sgnI z ≤ 1 := by unfold sgnI; split <;> (try split) <;> omega
section
variable {M : Mem} (hg : Good M) {a b c d e f : Int} (ha : Rg a) (hb : Rg b) (hc : Rg c) (hd : Rg d) (he : Rg e) (hf : Rg f)
include hg ha hb hc hd he hf
theorem cxTu_ok {fs : Facts} (hF : FactsHold (xTu a b c d e f) fs) : CXOk (baseTu M (xTu a b c d e f)) (xTu a b c d e f) (fun _ => .nilFunc) (cxTu fs) := by
 refine ⟨fun _ _ _ => rfl,fun v => ?_,hF,(fun r hr => by cases hr),(fun p hp => by cases hp),(fun _ => trivial),hg.pow _ _,hg.tabs⟩
 exact bd_of (l := bdTu) (zs := [a,b,c,d,e,f]) ⟨ha,hb,hc,hd,he,hf,trivial⟩ v
theorem runs_Tu {fs : Facts} (hF : FactsHold (xTu a b c d e f) fs) {fn : Nat} {args : List V} {v : V} (hrun : runTu fs fn args v = true) {xs : List Value} {y : Value}
  (hx : ∀ E,StatOk (baseTu M (xTu a b c d e f)) E → VRL E [.sym 0,.sym 1,.sym 2,.sym 3,.sym 4,.sym 5] [numV a,numV b,numV c,numV d,numV e,numV f] → VRL E args xs) (hy : ∀ E,StatOk (baseTu M (xTu a b c d e f)) E → VR E v y) : CallOk Tryz.prog M fn xs y := by
 simp only [runTu,Bool.and_eq_true] at hrun
 have hC := cxTu_ok hg ha hb hc hd he hf hF
 have hK : KitOk (baseTu M (xTu a b c d e f)) (xTu a b c d e f) (fun _ => .nilFunc) (kitTu fs) := ⟨hC,(fun f args v hv => by simp [kitTu,primOf,T.get_e] at hv),(fun f es he => by simp [kitTu,T.get_e] at he),
  (fun n cs hn => by simp [kitTu,T.get_e] at hn),(fun p hp => by cases hp),(fun p hp => by cases hp),(fun p hp => by cases hp)⟩
 have hone : ∀ i,oneV ((baseTu M (xTu a b c d e f)).sym i) := fun i => symX_one (o := fun _ => .nilFunc) (fun _ => trivial) i
 have hE0 : StatOk (baseTu M (xTu a b c d e f)) (baseE _ hone) := base_stat
 have hn := numsIs_ok hC hE0 (numsTu fs)
 simp only [List.map_cons,List.map_nil,ev_P0] at hn
 exact (Kit.run hK hrun.1 hrun.2).callOk (hE := hE0) (hx _ hE0 hn) (hy _ hE0)
theorem turn_ok : ∃ s : Int,(-1 ≤ s ∧ s ≤ 1) ∧ CallOk Tryz.prog M 35 [ptR a b,ptR c d,ptR e f] (.int .i64 s) :=
 ⟨_,sgn_rg (Poly.ev (xTu a b c d e f) pA),runs_Tu hg ha hb hc hd he hf (fs := []) (fun _ h => by cases h) runTurn (fun E hE ⟨_,_,e0,h0,_,_,e1,h1,_,_,e2,h2,_,_,e3,h3,_,_,e4,h4,_,_,e5,h5,_⟩ => by
  cases e0; cases e1; cases e2; cases e3; cases e4; cases e5
  exact VRL.cons ⟨_,VRL.cons h0 (VRL.cons h1 VRL.nil),rfl⟩ (VRL.cons ⟨_,VRL.cons h2 (VRL.cons h3 VRL.nil),rfl⟩ (VRL.cons ⟨_,VRL.cons h4 (VRL.cons h5 VRL.nil),rfl⟩ VRL.nil))) (fun E hE => by
  show _ = E.sym 13
  rw [hE.sym]; rfl)⟩
end
section
variable {M : Mem} (hg : Good M) {a b c d : Int} (ha : Rg a) (hb : Rg b) (hc : Rg c) (hd : Rg d)
include hg ha hb hc hd
theorem less_ok : ∃ s : Int,(-1 ≤ s ∧ s ≤ 1) ∧ CallOk Tryz.prog M 36 [ptR a b,ptR c d] (.int .i64 s) := by
 have z0 : Rg 0 := ⟨by omega,by omega⟩
 have hargs : ∀ E,StatOk (baseTu M (xTu a b c d 0 0)) E → VRL E [.sym 0,.sym 1,.sym 2,.sym 3,.sym 4,.sym 5] [numV a,numV b,numV c,numV d,numV 0,numV 0] → VRL E [ptV 0,ptV 1] [ptR a b,ptR c d] := fun E hE ⟨_,_,e0,h0,_,_,e1,h1,_,_,e2,h2,_,_,e3,h3,_⟩ => by
  cases e0; cases e1; cases e2; cases e3
  exact VRL.cons ⟨_,VRL.cons h0 (VRL.cons h1 VRL.nil),rfl⟩ (VRL.cons ⟨_,VRL.cons h2 (VRL.cons h3 VRL.nil),rfl⟩ VRL.nil)
 by_cases h : Poly.ev (xTu a b c d 0 0) (pD 0 2) = 0
 ·exact ⟨_,sgn_rg (Poly.ev (xTu a b c d 0 0) (pD 1 3)),runs_Tu hg ha hb hc hd z0 z0 (fs := [(pD 0 2,⟨false,true,false⟩)]) (fact_cons ⟨fun h' => by omega,fun _ => rfl,fun h' => by omega⟩ (fact_nil _)) runLess1 hargs (fun E hE => by
   show _ = E.sym 15
   rw [hE.sym]; rfl)⟩
 ·exact ⟨_,sgn_rg (Poly.ev (xTu a b c d 0 0) (pD 0 2)),runs_Tu hg ha hb hc hd z0 z0 (fs := [(pD 0 2,⟨true,false,true⟩)]) (fact_cons ⟨fun _ => rfl,fun h' => absurd h' h,fun _ => rfl⟩ (fact_nil _)) runLess0 hargs (fun E hE => by
   show _ = E.sym 14
   rw [hE.sym]; rfl)⟩
end
theorem point_ok {M : Mem} (hg : Good M) {a b : Int} (ha : Rg a) (hb : Rg b) : CallOk Tryz.prog M 34 [ptR a b] (.int .i64 0) := by
 have z0 : Rg 0 := ⟨by omega,by omega⟩
 exact runs_Tu hg ha hb z0 z0 z0 z0 (fs := []) (fun _ h => by cases h) runPoint (fun E hE ⟨_,_,e0,h0,_,_,e1,h1,_⟩ => by
  cases e0; cases e1
  exact VRL.cons ⟨_,VRL.cons h0 (VRL.cons h1 VRL.nil),rfl⟩ VRL.nil) (fun E hE => rfl)
def GonRaw (M : Mem) (pts : List (Int × Int)) (pv : Value) : Prop := (pts = [] ∧ ∃ a c,pv = .slice a 0 c) ∨ ∃ b c rc t fr rest,pv = .slice (some ⟨b,0,none⟩) pts.length c ∧ pts.length ≤ c ∧ M.frz b ∧ M.heap[b]? = some (.cells rc t fr) ∧ rc.toList = (pts.map fun p => [numV p.1,numV p.2]).flatten ++ rest
theorem GonRaw.le {M M' : Mem} (hl : M.Le M') {pts : List (Int × Int)} {pv : Value} (h : GonRaw M pts pv) : GonRaw M' pts pv := by
 rcases h with h | ⟨b,c,rc,t,fr,rest,g1,g2,z,g3,g4⟩
 ·exact .inl h
 ·obtain ⟨z',e'⟩ := hl.same b (Array.getElem?_eq_some_iff.1 g3).1 z
  exact .inr ⟨b,c,rc,t,fr,rest,g1,g2,z',e'.trans g3,g4⟩
theorem GonRaw.slice {M : Mem} {pts : List (Int × Int)} {pv : Value} (h : GonRaw M pts pv) : ∃ a c,pv = .slice a pts.length c := by
 rcases h with ⟨rfl,h⟩ | ⟨b,c,_,_,_,_,g1,_⟩
 ·exact h
 ·exact ⟨_,_,g1⟩
end Go.Proofs.YtdkafeammgaknaaGreatDoor
namespace Go.Proofs.YtdkafeammgaknaaGreatDoor
open Go Ev Klp
def crP (k : Nat) : List Poly := [Poly.mul (P0 (k + 4)) (P0 (k + 8)),Poly.mul (P0 (k + 5)) (P0 (k + 7)),Poly.mul (P0 (k + 5)) (P0 (k + 6)),Poly.mul (P0 (k + 3)) (P0 (k + 8)),Poly.mul (P0 (k + 3)) (P0 (k + 7)),Poly.mul (P0 (k + 4)) (P0 (k + 6))]
def crC (k i : Nat) : Poly := match i with
 | 0 => psub (Poly.mul (P0 (k + 4)) (P0 (k + 8))) (Poly.mul (P0 (k + 5)) (P0 (k + 7)))
 | 1 => psub (Poly.mul (P0 (k + 5)) (P0 (k + 6))) (Poly.mul (P0 (k + 3)) (P0 (k + 8)))
 | _ => psub (Poly.mul (P0 (k + 3)) (P0 (k + 7))) (Poly.mul (P0 (k + 4)) (P0 (k + 6)))
def sy (i : Nat) : V := .sym i
noncomputable def rowsCr (b : Nat) (t : Rows) : Rows := (((t.set 101 (bk [([sy (b + 4),sy (b + 8)],sy (b + 9)),([sy (b + 5),sy (b + 7)],sy (b + 10)),([sy (b + 5),sy (b + 6)],sy (b + 11)),([sy (b + 3),sy (b + 8)],sy (b + 12)),([sy (b + 3),sy (b + 7)],sy (b + 13)),([sy (b + 4),sy (b + 6)],sy (b + 14))])).set
 103 (bk [([sy (b + 9),sy (b + 10)],sy (b + 15)),([sy (b + 11),sy (b + 12)],sy (b + 16)),([sy (b + 13),sy (b + 14)],sy (b + 17))])).set 45 (bk ((List.range 9).map fun i => ([sy (b + i)],.int .i64 0)))).set
 131 (bk ((List.range 3).map fun i => ([sy (b + 15 + i)],.bool false)))
def sgF (b : Bool) : SS := ⟨b,!b,b⟩
def factsCr (k : Nat) (q : Bool × Bool × Bool) : Facts := [(crC k 0,sgF q.1),(crC k 1,sgF q.2.1),(crC k 2,sgF q.2.2)]
def allQ : List (Bool × Bool × Bool) := [(true,true,true),(true,true,false),(true,false,true),(true,false,false),(false,true,true),(false,true,false),(false,false,true),(false,false,false)]
def zeroQ (q : Bool × Bool × Bool) : Bool := !(q.1 || (q.2.1 || q.2.2))
theorem sgF_has (z : Int) : (sgF (decide (z ≠ 0))).has z := by
 unfold sgF SS.has
 by_cases h : z = 0
 ·subst h; simp
 ·simp [h]
theorem crQ (x : Nat → Int) (k : Nat) : ∃ q ∈ allQ,FactsHold x (factsCr k q) := by
 refine ⟨(decide (Poly.ev x (crC k 0) ≠ 0),decide (Poly.ev x (crC k 1) ≠ 0),decide (Poly.ev x (crC k 2) ≠ 0)),?_,fact_cons (sgF_has _) (fact_cons (sgF_has _) (fact_cons (sgF_has _) (fact_nil _)))⟩
 generalize decide (Poly.ev x (crC k 0) ≠ 0) = a
 generalize decide (Poly.ev x (crC k 1) ≠ 0) = b
 generalize decide (Poly.ev x (crC k 2) ≠ 0) = c
 cases a <;> cases b <;> cases c <;> simp [allQ]
def rg4 : Iv := (-4,4)
def bdFr : List Iv := [rg4,rg4,rg4,rg4,rg4,rg4,rg4,rg4,rg4]
def tabFr : List SE := numL ((List.range 9).map P0 ++ crP 0 ++ [crC 0 0,crC 0 1,crC 0 2])
noncomputable def cxFr (fs : Facts) : CX := ⟨T.ofList .e 0 tabFr,T.ofList .e 0 bdFr,fs,[],[]⟩
noncomputable def kitFr (fs : Facts) : Kit := ⟨cxFr fs,[],[],rowsCr 0 .e,.e,.e,.e,⟨[],[],[]⟩⟩
def nineV (b : Nat) : List V := (List.range 9).map fun i => sy (b + i)
noncomputable def runFr (f : Nat) (q : Bool × Bool × Bool) : Bool := (kitFr (factsCr 0 q)).chk && memoOk (kitFr (factsCr 0 q)).tab 10000 60 f [.agg (nineV 0)] (.int .i64 (cond (zeroQ q) 18 0))
theorem runFr_law : allQ.all (runFr 11) = true := by kernel_rfl
theorem runFr_own : allQ.all (runFr 37) = true := by kernel_rfl
theorem numsFr (fs : Facts) : numsIs (cxFr fs) ((List.range 9).map P0) (nineV 0) = true := by kernel_rfl
def nineR (f : Nat → Int) : List Value := (List.range 9).map fun i => numV (f i)
def Nine (f : Nat → Int) : Prop := ∀ i,i < 9 → -4 ≤ f i ∧ f i ≤ 4
def xFr (f : Nat → Int) (v : Nat) : Int := if v < 9 then f v else 0
section
variable {M : Mem} (hg : Good M) {f : Nat → Int} (hf : Nine f)
include hg hf
theorem frame_ok : ∃ z : Int,(0 ≤ z ∧ z ≤ 40) ∧ CallOk Tryz.prog M 11 [.agg (nineR f).toArray] (.int .i64 z) ∧ CallOk Tryz.prog M 37 [.agg (nineR f).toArray] (.int .i64 z) := by
 obtain ⟨q,hq,hF⟩ := crQ (xFr f) 0
 let w0 : Base := { toMem := M,sym := symX (xFr f) (fun _ => .nilFunc) (T.ofList .e 0 tabFr) }
 have hC : CXOk w0 (xFr f) (fun _ => .nilFunc) (cxFr (factsCr 0 q)) := by
  refine ⟨fun _ _ _ => rfl,fun v => ?_,hF,(fun r hr => by cases hr),(fun p hp => by cases hp),(fun _ => trivial),hg.pow _ _,hg.tabs⟩
  have := bd_of (l := bdFr) (zs := [f 0,f 1,f 2,f 3,f 4,f 5,f 6,f 7,f 8]) ⟨hf 0 (by omega),hf 1 (by omega),hf 2 (by omega),hf 3 (by omega),hf 4 (by omega),hf 5 (by omega),hf 6 (by omega),hf 7 (by omega),hf 8 (by omega),trivial⟩ v
  have e : xFr f v = (([f 0,f 1,f 2,f 3,f 4,f 5,f 6,f 7,f 8] : List Int)[v]?).getD 0 := by
   unfold xFr
   by_cases hv : v < 9
   ·rw [if_pos hv]
    have : v = 0 ∨ v = 1 ∨ v = 2 ∨ v = 3 ∨ v = 4 ∨ v = 5 ∨ v = 6 ∨ v = 7 ∨ v = 8 := by omega
    rcases this with rfl | rfl | rfl | rfl | rfl | rfl | rfl | rfl | rfl <;> rfl
   ·rw [if_neg hv,List.getElem?_eq_none (by simp; omega)]; rfl
  rw [e]; exact this
 have hK : KitOk w0 (xFr f) (fun _ => .nilFunc) (kitFr (factsCr 0 q)) := ⟨hC,(fun f args v hv => by simp [kitFr,primOf,T.get_e] at hv),(fun f es he => by simp [kitFr,T.get_e] at he),
  (fun n cs hn => by simp [kitFr,T.get_e] at hn),(fun p hp => by cases hp),(fun p hp => by cases hp),(fun p hp => by cases hp)⟩
 have hone : ∀ i,oneV (w0.sym i) := fun i => symX_one (o := fun _ => .nilFunc) (fun _ => trivial) i
 have hE0 : StatOk w0 (baseE w0 hone) := base_stat
 have hn := numsIs_ok hC hE0 (numsFr (factsCr 0 q))
 have en : ((List.range 9).map P0).map (fun q => numV (Poly.ev (xFr f) q)) = nineR f := by
  unfold nineR
  rw [List.map_map]
  refine List.map_congr_left fun i hi => ?_
  simp only [Function.comp,ev_P0]
  unfold xFr
  rw [if_pos (List.mem_range.1 hi)]
 rw [en] at hn
 have h1 := List.all_eq_true.1 runFr_law q hq
 have h2 := List.all_eq_true.1 runFr_own q hq
 simp only [runFr,Bool.and_eq_true] at h1 h2
 refine ⟨cond (zeroQ q) 18 0,by cases zeroQ q <;> simp,?_,?_⟩
 ·exact (Kit.run hK h1.1 h1.2).callOk (hE := hE0) (VRL.cons ⟨_,hn,rfl⟩ VRL.nil) rfl
 ·exact (Kit.run hK h2.1 h2.2).callOk (hE := hE0) (VRL.cons ⟨_,hn,rfl⟩ VRL.nil) rfl
end
def tabMf : List SE := ((List.range 9).map fun i => .int .i8 (P0 i)) ++ ((List.range 9).map fun i => .int .i64 (P0 i)) ++ ((List.range 9).map fun i => .int .i64 (P0 (9 + i))) ++ numL ((List.range 9).map (fun i => P0 (9 + i)) ++ crP 9 ++ [crC 9 0,crC 9 1,crC 9 2])
def rg8 : Iv := (-128,127)
def bdMf : List Iv := [rg8,rg8,rg8,rg8,rg8,rg8,rg8,rg8,rg8] ++ bdFr
def remsMf : List (Poly × Nat × Poly) := (List.range 9).map fun i => (P0 i,5,P0 (9 + i))
noncomputable def cxMf (fs : Facts) : CX := ⟨T.ofList .e 0 tabMf,T.ofList .e 0 bdMf,fs,remsMf,[]⟩
noncomputable def kitMf (fs : Facts) : Kit := ⟨cxMf fs,(List.range 9).map fun i => ⟨.rem,sy (9 + i),.int .i64 5,sy (18 + i)⟩,(List.range 9).map fun i => ⟨i,.i64,sy (9 + i)⟩,
 (rowsCr 27 .e).set 26 (bk ((List.range 9).map fun i => ([sy (18 + i)],sy (27 + i)))),.e,.e,.e,⟨[],[],[]⟩⟩
def outMf (q : Bool × Bool × Bool) : List V := cond (zeroQ q) [sy 27,sy 28,sy 29,.str [49],.str [48],.str [48],.str [48],.str [48],.str [49]] (nineV 27)
noncomputable def runMf (q : Bool × Bool × Bool) : Bool := (kitMf (factsCr 9 q)).chk && memoOk (kitMf (factsCr 9 q)).tab 10000 60 22 [.agg (nineV 0)] (.agg (outMf q))
theorem runMf_all : allQ.all runMf = true := by kernel_rfl
theorem intsMf (fs : Facts) : intsIs (cxMf fs) ((List.range 9).map fun i => (IntKind.i8,P0 i)) (nineV 0) = true := by kernel_rfl
theorem numsMf (fs : Facts) : numsIs (cxMf fs) ((List.range 9).map fun i => P0 (9 + i)) (nineV 27) = true := by kernel_rfl
def flatR (h : Nat → Int) : List Value := (List.range 9).map fun i => .int .i8 (h i)
def xMf (h : Nat → Int) (v : Nat) : Int := if v < 9 then h v else if v < 18 then (h (v - 9)).tmod 5 else 0
theorem make32_ok {M : Mem} (hg : Good M) {h : Nat → Int} (hh : ∀ i,i < 9 → -128 ≤ h i ∧ h i ≤ 127) : ∃ f : Nat → Int,Nine f ∧ CallOk Tryz.prog M 22 [.agg (flatR h).toArray] (.agg (nineR f).toArray) := by
 obtain ⟨q,hq,hF⟩ := crQ (xMf h) 9
 have t5 : ∀ z : Int,-4 ≤ z.tmod 5 ∧ z.tmod 5 ≤ 4 := fun z => tmod_rg (z := z) (n := 5) (by omega)
 let w0 : Base := { toMem := M,sym := symX (xMf h) (fun _ => .nilFunc) (T.ofList .e 0 tabMf) }
 have hC : CXOk w0 (xMf h) (fun _ => .nilFunc) (cxMf (factsCr 9 q)) := by
  refine ⟨fun _ _ _ => rfl,fun v => ?_,hF,(fun r hr => ?_),(fun p hp => by cases hp),(fun _ => trivial),hg.pow _ _,hg.tabs⟩
  ·have := bd_of (l := bdMf) (zs := [h 0,h 1,h 2,h 3,h 4,h 5,h 6,h 7,h 8,(h 0).tmod 5,(h 1).tmod 5,(h 2).tmod 5,(h 3).tmod 5,(h 4).tmod 5,(h 5).tmod 5,(h 6).tmod 5,(h 7).tmod 5,(h 8).tmod 5])
    ⟨hh 0 (by omega),hh 1 (by omega),hh 2 (by omega),hh 3 (by omega),hh 4 (by omega),hh 5 (by omega),hh 6 (by omega),hh 7 (by omega),hh 8 (by omega),t5 _,t5 _,t5 _,t5 _,t5 _,t5 _,t5 _,t5 _,t5 _,trivial⟩ v
   have e : xMf h v = (([h 0,h 1,h 2,h 3,h 4,h 5,h 6,h 7,h 8,(h 0).tmod 5,(h 1).tmod 5,(h 2).tmod 5,(h 3).tmod 5,(h 4).tmod 5,(h 5).tmod 5,(h 6).tmod 5,(h 7).tmod 5,(h 8).tmod 5] : List Int)[v]?).getD 0 := by
    by_cases hv : v < 18
    ·have : v = 0 ∨ v = 1 ∨ v = 2 ∨ v = 3 ∨ v = 4 ∨ v = 5 ∨ v = 6 ∨ v = 7 ∨ v = 8 ∨ v = 9 ∨ v = 10 ∨ v = 11 ∨ v = 12 ∨ v = 13 ∨ v = 14 ∨ v = 15 ∨ v = 16 ∨ v = 17 := by omega
     rcases this with rfl | rfl | rfl | rfl | rfl | rfl | rfl | rfl | rfl | rfl | rfl | rfl | rfl | rfl | rfl | rfl | rfl | rfl <;> rfl
    ·unfold xMf
     rw [if_neg (by omega),if_neg hv,List.getElem?_eq_none (by simp; omega)]; rfl
   rw [e]; exact this
  ·obtain ⟨i,hi,rfl⟩ := List.mem_map.1 hr
   have hi := List.mem_range.1 hi
   simp only [ev_P0]
   unfold xMf
   rw [if_pos hi,if_neg (by omega),if_pos (by omega),show 9 + i - 9 = i from by omega]
   rfl
 have hK : KitOk w0 (xMf h) (fun _ => .nilFunc) (kitMf (factsCr 9 q)) := ⟨hC,(fun f args v hv => by simp [kitMf,primOf,T.get_e] at hv),(fun f es he => by simp [kitMf,T.get_e] at he),
  (fun n cs hn => by simp [kitMf,T.get_e] at hn),(fun p hp => by cases hp),(fun p hp => by cases hp),(fun p hp => by cases hp)⟩
 have hone : ∀ i,oneV (w0.sym i) := fun i => symX_one (o := fun _ => .nilFunc) (fun _ => trivial) i
 have hE0 : StatOk w0 (baseE w0 hone) := base_stat
 have ha := intsIs_ok hC hE0 (intsMf (factsCr 9 q))
 have hn := numsIs_ok hC hE0 (numsMf (factsCr 9 q))
 have ea : ((List.range 9).map fun i => (IntKind.i8,P0 i)).map (fun p => Value.int p.1 (Poly.ev (xMf h) p.2)) = flatR h := by
  unfold flatR
  rw [List.map_map]
  refine List.map_congr_left fun i hi => ?_
  simp only [Function.comp,ev_P0]
  unfold xMf
  rw [if_pos (List.mem_range.1 hi)]
 have en : ((List.range 9).map fun i => P0 (9 + i)).map (fun q => numV (Poly.ev (xMf h) q)) = nineR fun i => (h i).tmod 5 := by
  unfold nineR
  rw [List.map_map]
  refine List.map_congr_left fun i hi => ?_
  have hi := List.mem_range.1 hi
  simp only [Function.comp,ev_P0]
  unfold xMf
  rw [if_neg (by omega),if_pos (by omega),show 9 + i - 9 = i from by omega]
 rw [ea] at ha
 rw [en] at hn
 have hr := List.all_eq_true.1 runMf_all q hq
 simp only [runMf,Bool.and_eq_true] at hr
 have hrun := Kit.run hK hr.1 hr.2
 cases hz : zeroQ q with
 | false =>
  refine ⟨fun i => (h i).tmod 5,fun i _ => t5 _,hrun.callOk (hE := hE0) (VRL.cons ⟨_,ha,rfl⟩ VRL.nil) ⟨_,?_,rfl⟩⟩
  unfold outMf
  rw [hz]
  exact hn
 | true =>
  refine ⟨fun i => match i with | 0 => (h 0).tmod 5 | 1 => (h 1).tmod 5 | 2 => (h 2).tmod 5 | 3 => 1 | 8 => 1 | _ => 0,fun i hi => ?_,hrun.callOk (hE := hE0) (VRL.cons ⟨_,ha,rfl⟩ VRL.nil) ⟨_,?_,rfl⟩⟩
  ·have : i = 0 ∨ i = 1 ∨ i = 2 ∨ i = 3 ∨ i = 4 ∨ i = 5 ∨ i = 6 ∨ i = 7 ∨ i = 8 := by omega
   rcases this with rfl | rfl | rfl | rfl | rfl | rfl | rfl | rfl | rfl <;> first | exact t5 _ | exact ⟨by simp,by simp⟩
  ·unfold outMf
   rw [hz,cond_true]
   obtain ⟨_,_,e0,h0,_,_,e1,h1,_,_,e2,h2,_⟩ := hn
   have n1 : strB [49] = numV 1 := by unfold numV; rw [show (((1 : Int)) : Rat) = 1 from rfl,canon_one]; rfl
   have n0 : strB [48] = numV 0 := by unfold numV; rw [show (((0 : Int)) : Rat) = 0 from rfl,canon_zero]; rfl
   cases e0; cases e1; cases e2
   exact VRL.cons h0 (VRL.cons h1 (VRL.cons h2 (VRL.cons n1.symm (VRL.cons n0.symm (VRL.cons n0.symm (VRL.cons n0.symm (VRL.cons n0.symm (VRL.cons n1.symm VRL.nil))))))))
end Go.Proofs.YtdkafeammgaknaaGreatDoor
namespace Go.Proofs.YtdkafeammgaknaaGreatDoor
open Go Ev Klp
def shpG (j : Nat) : List (Int × Int) := match j with
 | 0 => [(0,0),(3,0),(3,2),(0,2)]
 | 1 => [(0,0),(3,0),(0,3)]
 | 2 => [(0,2),(1,0),(3,1),(2,3)]
 | _ => [(0,0),(2,0),(3,1),(2,2),(0,2)]
def kP (v : Nat) (c : Int) : Poly := cond (decide (c = 0)) (P0 v) [([v],1),([],c)]
def tabGm : List SE := [.int .u8 (P0 0),.int .i8 (P0 1),.int .i8 (P0 2),.int .i64 (P0 1),.int .i64 (P0 2),.int .i64 (P0 3),.int .i64 (P0 4)] ++ ((List.range 4).map fun c => .int .i64 (kP 3 (Int.ofNat c))) ++ ((List.range 4).map fun c => .int .i64 (kP 4 (Int.ofNat c))) ++
 numL (((List.range 4).map fun c => kP 3 (Int.ofNat c)) ++ ((List.range 4).map fun c => kP 4 (Int.ofNat c))) ++ (List.range 14).map .opq
def bdGm : List Iv := [(0,255),(-128,127),(-128,127),(-2,2),(-2,2)]
noncomputable def cxGm (j : Nat) : CX := ⟨T.ofList .e 0 tabGm,T.ofList .e 0 bdGm,[],[(P0 0,4,[([],Int.ofNat j)]),(P0 1,3,P0 3),(P0 2,3,P0 4)],[]⟩
def binsGm (j : Nat) : List BinRow := [⟨.rem,sy 0,.int .u8 4,.int .u8 (Int.ofNat j)⟩,⟨.rem,sy 3,.int .i64 3,sy 5⟩,⟨.rem,sy 4,.int .i64 3,sy 6⟩] ++ ((List.range 4).map fun c => ⟨.add,.int .i64 (Int.ofNat c),sy 5,sy (7 + c)⟩) ++ (List.range 4).map fun c => ⟨.add,.int .i64 (Int.ofNat c),sy 6,sy (11 + c)⟩
noncomputable def kitGm (j : Nat) : Kit := ⟨cxGm j,binsGm j,[⟨1,.i64,sy 3⟩,⟨2,.i64,sy 4⟩],(T.e : Rows).set 26 (bk ((List.range 8).map fun i => ([sy (7 + i)],sy (15 + i)))),.e,.e,.e,⟨[],[],[]⟩⟩
def planGm : List V := ((List.range 14).map fun i => sy (23 + i)) ++ [sy 0,sy 1,sy 2]
def cellsGm (j : Nat) : List V := ((shpG j).map fun p => [sy (15 + p.1.toNat),sy (19 + p.2.toNat)]).flatten
def polysGm (j : Nat) : List Poly := ((shpG j).map fun p => [kP 3 p.1,kP 4 p.2]).flatten
noncomputable def runGm (j : Nat) : Bool := (kitGm j).chk && numsIs (cxGm j) (polysGm j) (cellsGm j) && (match (recN (kitGm j).tab 10000 60).call 23 [.agg planGm] .e 64 with
 | some (.slice ne 0 k cap,h,_) => Nat.beq k (shpG j).length && Nat.ble k (cap / 2) && (match h.get ne with
  | some (.cells cs _ _ _) => V.eqL (cs.take (2 * k)) (cellsGm j)
  | _ => false)
 | _ => false)
theorem runGm_all : ([0,1,2,3].all runGm) = true := by kernel_rfl
theorem intsGm (j : Nat) : intsIs (cxGm j) [(.u8,P0 0),(.i8,P0 1),(.i8,P0 2)] [sy 0,sy 1,sy 2] = true := by kernel_rfl
def xGm (sh a b : Int) (v : Nat) : Int := (([sh,a,b,a.tmod 3,b.tmod 3] : List Int)[v]?).getD 0
def ptsG (j : Nat) (a b : Int) : List (Int × Int) := (shpG j).map fun p => (p.1 + a.tmod 3,p.2 + b.tmod 3)
theorem kP_ev (x : Nat → Int) (v : Nat) (c : Int) : Poly.ev x (kP v c) = c + x v := by
 unfold kP
 by_cases h : c = 0
 ·subst h
  rw [decide_eq_true rfl,cond_true,ev_P0]; omega
 ·rw [decide_eq_false h,cond_false]
  show 1 * (x v * 1) + (c * 1 + 0) = c + x v
  omega
theorem shpG_rg {j : Nat} (hj : j < 4) : ∀ p ∈ shpG j,(0 ≤ p.1 ∧ p.1 ≤ 3) ∧ 0 ≤ p.2 ∧ p.2 ≤ 3 := by
 have : j = 0 ∨ j = 1 ∨ j = 2 ∨ j = 3 := by omega
 rcases this with rfl | rfl | rfl | rfl <;> decide
theorem ptsG_rg {j : Nat} (hj : j < 4) (a b : Int) : ∀ p ∈ ptsG j a b,Rg p.1 ∧ Rg p.2 := by
 intro p hp
 obtain ⟨q,hq,rfl⟩ := List.mem_map.1 hp
 have h := shpG_rg hj q hq
 have t := fun z : Int => tmod_rg (z := z) (n := 3) (by omega)
 have ta : -2 ≤ a.tmod 3 ∧ a.tmod 3 ≤ 2 := t a
 have tb : -2 ≤ b.tmod 3 ∧ b.tmod 3 ≤ 2 := t b
 exact ⟨⟨by show -128 ≤ q.1 + _; omega,by show q.1 + _ ≤ 128; omega⟩,⟨by show -128 ≤ q.2 + _; omega,by show q.2 + _ ≤ 128; omega⟩⟩
theorem ptsG_len {j : Nat} (hj : j < 4) (a b : Int) : (ptsG j a b).length ≤ 5 := by
 rw [ptsG,List.length_map]
 have : j = 0 ∨ j = 1 ∨ j = 2 ∨ j = 3 := by omega
 rcases this with rfl | rfl | rfl | rfl <;> decide
theorem gon32_ok {M : Mem} (hg : Good M) {ps : List Value} (hl : ps.length = 14) (h1 : ∀ x ∈ ps,oneV x) {sh a b : Int} (hs : 0 ≤ sh ∧ sh ≤ 255) (ha : -128 ≤ a ∧ a ≤ 127) (hb : -128 ≤ b ∧ b ≤ 127) {j : Nat} (hj : j < 4) (ej : sh.tmod 4 = j) {w : World} (hw : M.On w) :
  Calls Tryz.prog 23 #[.agg (ps ++ [Value.int .u8 sh,Value.int .i8 a,Value.int .i8 b]).toArray] w (RetM M w fun y M' => GonRaw M' (ptsG j a b) y) := by
 let x := xGm sh a b
 let o : Nat → Value := fun i => (ps[i]?).getD .nilFunc
 have oo : ∀ i,oneV (o i) := fun i => by
  show oneV ((ps[i]?).getD .nilFunc)
  cases h : ps[i]? with
  | none => trivial
  | some y => exact h1 y (List.mem_of_getElem? h)
 let w0 : Base := { toMem := M,sym := symX x o (T.ofList .e 0 tabGm) }
 have hone : ∀ i,oneV (w0.sym i) := fun i => symX_one oo i
 have t3 : ∀ z : Int,-2 ≤ z.tmod 3 ∧ z.tmod 3 ≤ 2 := fun z => tmod_rg (z := z) (n := 3) (by omega)
 have hC : CXOk w0 x o (cxGm j) := by
  refine ⟨fun _ _ _ => rfl,fun v => ?_,(fun f hf => by cases hf),(fun r hr => ?_),(fun p hp => by cases hp),oo,hg.pow _ _,hg.tabs⟩
  ·exact bd_of (l := bdGm) (zs := [sh,a,b,a.tmod 3,b.tmod 3]) ⟨hs,ha,hb,t3 a,t3 b,trivial⟩ v
  ·have hr : r ∈ [(P0 0,4,[([],Int.ofNat j)]),(P0 1,3,P0 3),(P0 2,3,P0 4)] := hr
   simp only [List.mem_cons,List.not_mem_nil,or_false] at hr
   rcases hr with rfl | rfl | rfl
   ·rw [ev_P0]
    show sh.tmod 4 = Int.ofNat j * 1 + 0
    rw [ej]; simp
   ·simp only [ev_P0]; rfl
   ·simp only [ev_P0]; rfl
 have hK : KitOk w0 x o (kitGm j) := ⟨hC,(fun f args v hv => by simp [kitGm,primOf,T.get_e] at hv),(fun f es he => by simp [kitGm,T.get_e] at he),
  (fun n cs hn => by simp [kitGm,T.get_e] at hn),(fun p hp => by cases hp),(fun p hp => by cases hp),(fun p hp => by cases hp)⟩
 have hE0 : StatOk w0 (baseE w0 hone) := base_stat
 have hrun := List.all_eq_true.1 runGm_all j (by simp only [List.mem_cons,List.not_mem_nil,or_false]; omega)
 simp only [runGm,Bool.and_eq_true] at hrun
 obtain ⟨⟨hchk,hnums⟩,hrun⟩ := hrun
 have getO : ∀ i,i < 14 → (T.ofList .e 0 tabGm : T SE).get (23 + i) = some (.opq i) := fun i hi => by
  rw [T.get_ofList,if_pos ⟨Nat.zero_le _,by simp [tabGm,numL]; omega⟩,Nat.sub_zero]
  unfold tabGm
  rw [List.getElem?_append_right (by simp [numL])]
  simp [numL,List.getElem?_range hi]
 have hargs : VRL (baseE w0 hone) [.agg planGm] [.agg (ps ++ [Value.int .u8 sh,Value.int .i8 a,Value.int .i8 b]).toArray] := by
  refine VRL.cons ⟨_,VRL.append ?_ ?_,rfl⟩ VRL.nil
  ·refine VRL.of_get (by simp [hl]) fun l v y h2 h3 => ?_
   have hl14 : l < 14 := by
    have := (List.getElem?_eq_some_iff.1 h3).1
    rw [hl] at this; exact this
   simp only [List.getElem?_map,List.getElem?_range hl14,Option.map_some,Option.some.injEq] at h2
   subst h2
   show y = (baseE w0 hone).sym (23 + l)
   rw [hE0.sym]
   show y = symX x o _ (23 + l)
   unfold symX
   rw [getO l hl14]
   show y = (ps[l]?).getD .nilFunc
   rw [h3]; rfl
  ·have := intsIs_ok hC hE0 (intsGm j)
   simp only [List.map_cons,List.map_nil,ev_P0] at this
   exact this
 split at hrun
 ·rename_i ne k cap h nx hr
  simp only [Bool.and_eq_true] at hrun
  obtain ⟨⟨j1,j2⟩,j3⟩ := hrun
  have j1 := nbeq_true j1
  have j2 := nble_le j2
  refine call_ret hK hchk hone hr hargs hw fun y E' w' hv hok' hnew => ?_
  split at j3
  ·rename_i cs te ue ze hne
   obtain ⟨ie,hie,rfl⟩ := hv
   obtain ⟨ie',hie',_,rc,fr,r1,r2,r3,xs,rest,hxs,hrc⟩ := hok'.rel.obj _ _ hne
   rw [hie] at hie'; cases hie'
   have htk := hxs.take (2 * k)
   rw [V.eqL_eq _ _ j3] at htk
   have hn := numsIs_ok hC hok'.sym hnums
   have en : (polysGm j).map (fun q => numV (Poly.ev x q)) = ((ptsG j a b).map fun p => [numV p.1,numV p.2]).flatten := by
    unfold polysGm ptsG
    rw [List.map_flatten,List.map_map,List.map_map]
    congr 1
    refine List.map_congr_left fun p _ => ?_
    simp only [Function.comp,List.map_cons,List.map_nil,kP_ev]
    rfl
   rw [en] at hn
   have hex := VRL.det _ _ _ htk hn
   have hlen : (ptsG j a b).length = k := by rw [ptsG,List.length_map,j1]
   refine .inr ⟨ie.blk,capOf ie 0 cap,rc,te,fr,xs.drop (2 * k) ++ rest,by rw [hlen],?_,.inr ⟨ne,_,ie,hne,hie,rfl⟩,r1,by rw [hrc,← hex,← List.append_assoc,List.take_append_drop]⟩
   rw [hlen]
   unfold capOf
   split
   ·exact j2
   ·exact Nat.le_trans j2 (Nat.le_max_left _ _)
  ·cases j3
 ·cases hrun
end Go.Proofs.YtdkafeammgaknaaGreatDoor
namespace Go.Proofs.YtdkafeammgaknaaGreatDoor
open Go Ev Klp
def tabGo : List SE := (List.range 10).map .opq ++ ((List.range 42).map fun i => .int .i64 (P0 i)) ++ (List.range 7).map fun i => .opq (10 + i)
noncomputable def cxGo (n : Nat) (fs : Facts) : CX := ⟨T.ofList .e 0 tabGo,T.ofList .e 0 (List.replicate 42 (-1,1)),fs,[],[(52,n),(53,n - 1)]⟩
def insGo (n : Nat) : Ins := ⟨[(39,52,1001,sy 53)],((List.range n).map fun i => (39,52,i,sy (54 + i))) ++ (List.range (n - 1)).map fun i => (39,53,i,sy (55 + i)),(List.range n).map fun i => (57,54 + i,[sy (2 * i),sy (2 * i + 1)])⟩
def others (n i : Nat) : List Nat := (List.range n).filter fun m => !(Nat.beq m i || Nat.beq m ((i + 1) % n))
def tests (n : Nat) : List (Nat × Bool) := ((List.range n).map fun i => (others n i).map fun m => (6 * i + m,true)).flatten ++ (List.range (n - 1)).map fun i => (37 + i,false)
def passF (t : Nat × Bool) : Poly × SS := (P0 t.1,⟨false,!t.2,true⟩)
def failF (t : Nat × Bool) : Poly × SS := (P0 t.1,⟨true,t.2,false⟩)
def factsAt (l : List (Nat × Bool)) (j : Nat) : Facts := (l.take j).map passF ++ ((l.drop j).take 1).map failF
def resAt (l : List (Nat × Bool)) (j : Nat) : Int := match l[j]? with | some t => cond t.2 7 6 | none => 0
def memoGo (n : Nat) : Memo := [(35,((List.range n).map fun i => (List.range n).map fun m => ([ptV i,ptV ((i + 1) % n),ptV m],V.sym (10 + (6 * i + m)))).flatten),
 (34,(List.range n).map fun i => ([ptV i],.int .i64 0)),(36,(List.range n).map fun i => ([ptV i,ptV 0],.sym (10 + (36 + i))))]
noncomputable def kitGo (n : Nat) (fs : Facts) : Kit := ⟨cxGo n fs,[],[],.e,tmk (memoGo n),.e,.e,insGo n⟩
noncomputable def runGo (n j : Nat) : Bool := memoOk (kitGo n (factsAt (tests n) j)).tab 10000 60 12 [sy 52] (.int .i64 (resAt (tests n) j))
theorem runGo_all : ([3,4,5].all fun n => (List.range ((tests n).length + 1)).all fun j => runGo n j) = true := by kernel_rfl
noncomputable def cxGs (n : Nat) : CX := ⟨T.ofList .e 0 [.opq 0],.e,[],[],[(0,n)]⟩
noncomputable def kitGs (n : Nat) : Kit := ⟨cxGs n,[],[],.e,.e,.e,.e,⟨[],[],[]⟩⟩
noncomputable def runGs (n : Nat) : Bool := memoOk (kitGs n).tab 10000 60 12 [.sym 0] (.int .i64 5)
theorem runGs_all : ([0,1,2].all runGs) = true := by kernel_rfl
theorem und_pts : tb0.und 39 = some (.slice 57) := by kernel_rfl
theorem size_pt : tb0.size 57 = some 2 := by kernel_rfl
theorem agg_pt : tb0.isAgg 57 = some true := by kernel_rfl
theorem low_run {tb : Tab} {P : Program} (hT : TabOk tb P) {t e sz n cap l : Nat} {a : Addr} (hd : tb.und t = some (.slice e)) (hs : tb.size e = some sz) (hl : l ≤ n) (hn : n ≤ cap) (hlc : l < cap) (j : IntKind) (w : World) :
  (Instr.sliceAt t (.slice (some a) n cap) (some (.int j (Int.ofNat l))) none none).run P w = .ok (.slice (some (a.add (l * sz))) (n - l) (cap - l)) w := by
 have hu := hT.und _ _ hd
 have hb : (0 : Int) ≤ (l : Int) ∧ (l : Int) ≤ (n : Int) := ⟨by omega,by omega⟩
 have hm : ¬ (cap = l) := by omega
 simp only [Instr.sliceAt,Sem.run_bind,run_underlying hu,Result.andThen_ok,Instr.slice,Instr.sliceBounds,Sem.run_pure,Instr.sliceBound,asInt,asIntOf,Int.ofNat_eq_natCast,size_run hT hs]
 simp only [if_pos hb,Sem.run_pure,Result.andThen_ok,Int.toNat_natCast,if_neg hm]
 rfl
def okT (s : Nat → Int) (t : Nat × Bool) : Prop := cond t.2 (0 < s t.1) (0 ≤ s t.1)
theorem first_fail (s : Nat → Int) : ∀ l : List (Nat × Bool),∃ j,j ≤ l.length ∧ FactsHold s (factsAt l j)
 | [] => ⟨0,Nat.le_refl _,fun f hf => by cases hf⟩
 | t :: l => by
  obtain ⟨v,b⟩ := t
  have e := ev_P0 s v
  by_cases h : okT s (v,b)
  ·obtain ⟨j,hj,hF⟩ := first_fail s l
   refine ⟨j + 1,by simpa using hj,fact_cons (s := ⟨false,!b,true⟩) (q := P0 v) ?_ hF⟩
   rw [e]
   cases b
   ·exact ⟨fun h' => absurd h (by show ¬ (0 ≤ s v); omega),fun _ => rfl,fun _ => rfl⟩
   ·exact ⟨fun h' => absurd h (by show ¬ (0 < s v); omega),fun h' => absurd h (by show ¬ (0 < s v); omega),fun _ => rfl⟩
  ·refine ⟨0,Nat.zero_le _,fact_cons (s := ⟨true,b,false⟩) (q := P0 v) ?_ (fact_nil _)⟩
   rw [e]
   cases b
   ·have h : ¬ (0 ≤ s v) := h
    exact ⟨fun _ => rfl,fun h' => by omega,fun h' => by omega⟩
   ·have h : ¬ (0 < s v) := h
    exact ⟨fun _ => rfl,fun _ => rfl,fun h' => by omega⟩
theorem res_rg (l : List (Nat × Bool)) (j : Nat) : 0 ≤ resAt l j ∧ resAt l j ≤ 40 := by
 unfold resAt
 split
 ·rename_i t _
  cases t.2 <;> simp
 ·simp
def oGo (pts : List (Int × Int)) (j : Nat) : Value := match pts[j / 2]? with | some p => numV (cond (Nat.beq (j % 2) 0) p.1 p.2) | none => .nilFunc
theorem flat_get (pts : List (Int × Int)) (j : Nat) (x : Value) (h : ((pts.map fun p => [numV p.1,numV p.2]).flatten)[j]? = some x) : x = oGo pts j := by
 induction pts generalizing j with
 | nil => simp at h
 | cons p l ih =>
  match j,h with
  | 0,h => simp at h; subst h; rfl
  | 1,h => simp at h; subst h; rfl
  | j + 2,h =>
   have := ih j (by simpa using h)
   rw [this]
   unfold oGo
   rw [show (j + 2) / 2 = j / 2 + 1 from by omega,show (j + 2) % 2 = j % 2 from by omega]
   rfl
theorem flat_len (pts : List (Int × Int)) : ((pts.map fun p => [numV p.1,numV p.2]).flatten).length = 2 * pts.length := by
 induction pts with
 | nil => rfl
 | cons p l ih => simp only [List.map_cons,List.flatten_cons,List.length_append,ih,List.length_cons,List.length_nil]; omega
theorem gon_ok {M : Mem} (hg : Good M) {pts : List (Int × Int)} (h5 : pts.length ≤ 5) (hp : ∀ p ∈ pts,Rg p.1 ∧ Rg p.2) {pv : Value} (hr : GonRaw M pts pv) : ∃ z : Int,(0 ≤ z ∧ z ≤ 40) ∧ CallOk Tryz.prog M 12 [pv] (.int .i64 z) := by
 by_cases h3 : pts.length < 3
 ·
  refine ⟨5,⟨by omega,by omega⟩,?_⟩
  obtain ⟨ad,c,rfl⟩ := hr.slice
  have hmem : pts.length ∈ [0,1,2] := by simp only [List.mem_cons,List.not_mem_nil,or_false]; omega
  have hrun := List.all_eq_true.1 runGs_all _ hmem
  generalize hn : pts.length = n at hrun
  let w0 : Base := { toMem := M,sym := symX (fun _ => 0) (fun _ => .slice ad n c) (cxGs n).tab }
  have hone : ∀ i,oneV (w0.sym i) := fun i => symX_one (o := fun _ => .slice ad n c) (fun _ => trivial) i
  have hK : KitOk w0 (fun _ => 0) (fun _ => .slice ad n c) (kitGs n) := by
   refine ⟨⟨(fun _ _ _ => rfl),(fun v => ?_),(fun f hf => by cases hf),(fun r hr => by cases hr),(fun p hp => ?_),(fun _ => trivial),hg.pow _ _,hg.tabs⟩,(fun f args v hv => by simp [kitGs,primOf,T.get_e] at hv),(fun f es he => by simp [kitGs,T.get_e] at he),
    (fun n cs hn => by simp [kitGs,T.get_e] at hn),(fun p hp => by cases hp),(fun p hp => by cases hp),(fun p hp => by cases hp)⟩
   ·show Iv.has ((T.get .e v).getD (0,0)) 0
    rw [T.get_e]; exact ⟨Int.le_refl _,Int.le_refl _⟩
   ·rw [List.mem_singleton.1 hp]
    exact ⟨ad,c,rfl⟩
  exact (Kit.run hK (show (kitGs n).chk = true from rfl) hrun).callOk (hE := base_stat (h := hone)) (VRL.cons rfl VRL.nil) rfl
 ·
  have hmem : pts.length ∈ [3,4,5] := by simp only [List.mem_cons,List.not_mem_nil,or_false]; omega
  have hall := List.all_eq_true.1 runGo_all _ hmem
  rcases hr with ⟨h0,_⟩ | ⟨b,c,rc,t,fr,rest,rfl,g2,gz,g3,g4⟩
  ·rw [h0] at h3; exact absurd (show ([] : List (Int × Int)).length < 3 by simp) h3
  generalize hn : pts.length = n at *
  let P : Nat → Int × Int := fun i => (pts[i]?).getD (0,0)
  have hP : ∀ i,Rg (P i).1 ∧ Rg (P i).2 := fun i => by
   show Rg ((pts[i]?).getD (0,0)).1 ∧ Rg ((pts[i]?).getD (0,0)).2
   cases h : pts[i]? with
   | none => exact ⟨⟨by simp,by simp⟩,⟨by simp,by simp⟩⟩
   | some p => exact hp p (List.mem_of_getElem? h)
  have tu := fun i m => Classical.indefiniteDescription _ (turn_ok hg (hP i).1 (hP i).2 (hP ((i + 1) % n)).1 (hP ((i + 1) % n)).2 (hP m).1 (hP m).2)
  have le := fun i => Classical.indefiniteDescription _ (less_ok hg (hP i).1 (hP i).2 (hP 0).1 (hP 0).2)
  let s : Nat → Int := fun v => if v < 36 then (tu (v / 6) (v % 6)).1 else if v < 42 then (le (v - 36)).1 else 0
  have hs : ∀ v,-1 ≤ s v ∧ s v ≤ 1 := fun v => by
   show -1 ≤ (if v < 36 then _ else if v < 42 then _ else _) ∧ (if v < 36 then _ else if v < 42 then _ else _) ≤ 1
   split
   ·exact (tu (v / 6) (v % 6)).2.1
   ·split
    ·exact (le (v - 36)).2.1
    ·omega
  obtain ⟨j,hj,hF⟩ := first_fail s (tests n)
  have hrun := List.all_eq_true.1 hall j (List.mem_range.2 (Nat.lt_succ_of_le hj))
  refine ⟨resAt (tests n) j,res_rg _ _,?_⟩
  let o : Nat → Value := fun i => if i < 10 then oGo pts i else if i = 10 then .slice (some ⟨b,0,none⟩) n c else if i = 11 then .slice (some ⟨b,2,none⟩) (n - 1) (c - 1) else .pointer (some ⟨b,(i - 12) * 2,none⟩)
  have oo : ∀ i,oneV (o i) := fun i => by
   show oneV (if i < 10 then _ else if i = 10 then _ else if i = 11 then _ else _)
   split
   ·unfold oGo
    split <;> trivial
   ·split
    ·trivial
    ·split <;> trivial
  let w0 : Base := { toMem := M,sym := symX s o (T.ofList .e 0 tabGo) }
  have hone : ∀ i,oneV (w0.sym i) := fun i => symX_one oo i
  have getT : ∀ i,(T.ofList .e 0 tabGo : T SE).get i = tabGo[i]? := fun i => by
   rw [T.get_ofList]
   split
   ·rw [Nat.sub_zero]
   ·rename_i hi
    rw [T.get_e,List.getElem?_eq_none (by omega)]
  have sO : ∀ i,i < 10 → w0.sym i = oGo pts i := fun i hi => by
   show symX s o _ i = _
   unfold symX
   rw [getT]
   have : tabGo[i]? = some (.opq i) := by
    unfold tabGo
    simp only [List.append_assoc]
    rw [List.getElem?_append_left (by simpa using hi),List.getElem?_map,List.getElem?_range hi]; rfl
   rw [this]
   exact if_pos hi
  have sS : ∀ v,v < 42 → w0.sym (10 + v) = .int .i64 (s v) := fun v hv => by
   show symX s o _ (10 + v) = _
   unfold symX
   rw [getT]
   have : tabGo[10 + v]? = some (.int .i64 (P0 v)) := by
    unfold tabGo
    simp only [List.append_assoc]
    rw [List.getElem?_append_right (by simp),List.getElem?_append_left (by simp; omega)]
    simp [List.getElem?_range hv]
   rw [this]
   simp only [ev_P0]
  have sX : ∀ i,i < 7 → w0.sym (52 + i) = o (10 + i) := fun i hi => by
   show symX s o _ (52 + i) = _
   unfold symX
   rw [getT]
   have : tabGo[52 + i]? = some (.opq (10 + i)) := by
    have : i = 0 ∨ i = 1 ∨ i = 2 ∨ i = 3 ∨ i = 4 ∨ i = 5 ∨ i = 6 := by omega
    rcases this with rfl | rfl | rfl | rfl | rfl | rfl | rfl <;> rfl
   rw [this]
  have s52 : w0.sym 52 = .slice (some ⟨b,0,none⟩) n c := sX 0 (by omega)
  have s53 : w0.sym 53 = .slice (some ⟨b,2,none⟩) (n - 1) (c - 1) := sX 1 (by omega)
  have s54 : ∀ i,i < 5 → w0.sym (54 + i) = .pointer (some ⟨b,i * 2,none⟩) := fun i hi => by
   have := sX (2 + i) (by omega)
   rw [show 52 + (2 + i) = 54 + i from by omega] at this
   rw [this]
   show (if 10 + (2 + i) < 10 then _ else if 10 + (2 + i) = 10 then _ else if 10 + (2 + i) = 11 then _ else Value.pointer (some ⟨b,(10 + (2 + i) - 12) * 2,none⟩)) = _
   rw [if_neg (by omega),if_neg (by omega),if_neg (by omega),show 10 + (2 + i) - 12 = i from by omega]
  have hpt : ∀ E,StatOk w0 E → ∀ i,i < n → VR E (ptV i) (ptR (P i).1 (P i).2) := fun E hE i hi => by
   have hi5 : i < 5 := by omega
   have hpi : pts[i]? = some (P i) := by
    show _ = some ((pts[i]?).getD (0,0))
    rw [List.getElem?_eq_getElem (by omega)]; rfl
   refine ⟨_,VRL.cons ?_ (VRL.cons ?_ VRL.nil),rfl⟩
   ·show _ = E.sym (2 * i)
    rw [hE.sym,sO _ (by omega)]
    show _ = oGo pts (2 * i)
    unfold oGo
    rw [show 2 * i / 2 = i from by omega,show 2 * i % 2 = 0 from by omega,hpi]; rfl
   ·show _ = E.sym (2 * i + 1)
    rw [hE.sym,sO _ (by omega)]
    show _ = oGo pts (2 * i + 1)
    unfold oGo
    rw [show (2 * i + 1) / 2 = i from by omega,show (2 * i + 1) % 2 = 1 from by omega,hpi]; rfl
  have hn0 : 0 < n := by omega
  have hmo : Memos Tryz.prog w0 (memoGo n) := by
   intro q hq p hp
   simp only [memoGo,List.mem_cons,List.not_mem_nil,or_false] at hq
   rcases hq with rfl | rfl | rfl
   ·obtain ⟨l,hl,hpl⟩ := List.mem_flatten.1 hp
    obtain ⟨i,hi,rfl⟩ := List.mem_map.1 hl
    obtain ⟨m,hm,rfl⟩ := List.mem_map.1 hpl
    have hi := List.mem_range.1 hi
    have hm := List.mem_range.1 hm
    have hv : 6 * i + m < 36 := by omega
    refine ((tu i m).2.2).contract (Mem.Le.refl _) (fun E hE => VRL.cons (hpt E hE i hi) (VRL.cons (hpt E hE _ (Nat.mod_lt _ hn0)) (VRL.cons (hpt E hE m hm) VRL.nil))) (fun E hE => ?_)
    show _ = E.sym (10 + (6 * i + m))
    rw [hE.sym,sS _ (by omega)]
    show _ = Value.int .i64 (if 6 * i + m < 36 then (tu ((6 * i + m) / 6) ((6 * i + m) % 6)).1 else if _ then _ else _)
    rw [if_pos hv,show (6 * i + m) / 6 = i from by omega,show (6 * i + m) % 6 = m from by omega]
   ·obtain ⟨i,hi,rfl⟩ := List.mem_map.1 hp
    have hi := List.mem_range.1 hi
    exact (point_ok hg (hP i).1 (hP i).2).contract (Mem.Le.refl _) (fun E hE => VRL.cons (hpt E hE i hi) VRL.nil) (fun E hE => rfl)
   ·obtain ⟨i,hi,rfl⟩ := List.mem_map.1 hp
    have hi := List.mem_range.1 hi
    refine ((le i).2.2).contract (Mem.Le.refl _) (fun E hE => VRL.cons (hpt E hE i hi) (VRL.cons (hpt E hE 0 hn0) VRL.nil)) (fun E hE => ?_)
    show _ = E.sym (10 + (36 + i))
    rw [hE.sym,sS _ (by omega)]
    show _ = Value.int .i64 (if 36 + i < 36 then _ else if 36 + i < 42 then (le (36 + i - 36)).1 else _)
    rw [if_neg (by omega),if_pos (by omega),show 36 + i - 36 = i from by omega]
  have hK : KitOk w0 s o (kitGo n (factsAt (tests n) j)) := by
   refine ⟨⟨(fun _ _ _ => rfl),(fun v => ?_),hF,(fun r hr => by cases hr),(fun p hp => ?_),oo,hg.pow _ _,hg.tabs⟩,(fun f args v hv => tmk_prim hmo hv),(fun f es he => by simp [kitGo,T.get_e] at he),
    (fun m cs hm => by simp [kitGo,T.get_e] at hm),(fun p hp => ?_),(fun p hp => ?_),(fun p hp => ?_)⟩
   ·show Iv.has (((T.ofList .e 0 (List.replicate 42 (-1,1))).get v).getD (0,0)) (s v)
    rw [T.get_ofList]
    split
    ·rename_i hv
     rw [Nat.sub_zero,List.getElem?_replicate,if_pos (by simpa using hv.2)]
     exact hs v
    ·rename_i hv
     have hv : ¬ v < 42 := fun h => hv ⟨Nat.zero_le _,by simpa using h⟩
     rw [T.get_e]
     show Iv.has (0,0) (if v < 36 then _ else if v < 42 then _ else (0 : Int))
     rw [if_neg (by omega),if_neg hv]
     exact ⟨Int.le_refl _,Int.le_refl _⟩
   ·have hp : p ∈ [(52,n),(53,n - 1)] := hp
    simp only [List.mem_cons,List.not_mem_nil,or_false] at hp
    rcases hp with rfl | rfl
    ·exact ⟨_,_,s52⟩
    ·exact ⟨_,_,s53⟩
   ·have hp : p ∈ [(39,52,1001,sy 53)] := hp
    intro E hE jk w
    rw [List.mem_singleton.1 hp]
    refine ⟨.slice (some ⟨b,2,none⟩) (n - 1) (c - 1),?_,by show _ = E.sym 53; rw [hE.sym,s53]⟩
    simp only [cutLo,cutHi,s52]
    have := low_run tabOk (a := ⟨b,0,none⟩) und_pts size_pt (l := 1) (n := n) (cap := c) (by omega) g2 (by omega) jk w
    rw [add_off] at this
    exact this
   ·have hp : p ∈ ((List.range n).map fun i => (39,52,i,sy (54 + i))) ++ (List.range (n - 1)).map fun i => (39,53,i,sy (55 + i)) := hp
    intro E hE jk w
    rcases List.mem_append.1 hp with hp | hp
    ·obtain ⟨i,hi,rfl⟩ := List.mem_map.1 hp
     have hi := List.mem_range.1 hi
     refine ⟨.pointer (some ⟨b,i * 2,none⟩),?_,by show _ = E.sym (54 + i); rw [hE.sym,s54 i (by omega)]⟩
     simp only [s52]
     have := adr_run tabOk (cap := c) (a := ⟨b,0,none⟩) und_pts size_pt hi jk w
     rw [add_off,Nat.zero_add] at this
     exact this
    ·obtain ⟨i,hi,rfl⟩ := List.mem_map.1 hp
     have hi := List.mem_range.1 hi
     refine ⟨.pointer (some ⟨b,(i + 1) * 2,none⟩),?_,by show _ = E.sym (55 + i); rw [hE.sym,show 55 + i = 54 + (i + 1) from by omega,s54 (i + 1) (by omega)]⟩
     simp only [s53]
     have := adr_run tabOk (cap := c - 1) (a := ⟨b,2,none⟩) und_pts size_pt hi jk w
     rw [add_off,show 2 + i * 2 = (i + 1) * 2 from by omega] at this
     exact this
   ·have hp : p ∈ (List.range n).map fun i => (57,54 + i,[sy (2 * i),sy (2 * i + 1)]) := hp
    obtain ⟨i,hi,rfl⟩ := List.mem_map.1 hp
    have hi := List.mem_range.1 hi
    refine ⟨⟨b,i * 2,none⟩,[numV (P i).1,numV (P i).2],s54 i (by omega),.inl ⟨agg_pt,size_pt⟩,fun E hE => ?_,⟨(Array.getElem?_eq_some_iff.1 g3).1,gz⟩,fun w hw k y hy => ?_⟩
    ·obtain ⟨xs,hx,e⟩ := hpt E hE i hi
     have : xs = [numV (P i).1,numV (P i).2] := by
      have := congrArg (fun v : Value => match v with | .agg a => a.toList | _ => []) e
      exact this.symm
     rw [← this]; exact hx
    ·rw [g3] at hw
     rw [add_off,cell_of hw,← Array.getElem?_toList,g4]
     have hk : k < 2 := by
      have := (List.getElem?_eq_some_iff.1 hy).1
      simpa using this
     rw [List.getElem?_append_left (by rw [flat_len,hn]; omega)]
     have hlt : i * 2 + k < ((pts.map fun p => [numV p.1,numV p.2]).flatten).length := by rw [flat_len,hn]; omega
     rw [List.getElem?_eq_getElem hlt]
     have := flat_get pts (i * 2 + k) _ (List.getElem?_eq_getElem hlt)
     rw [this]
     have hpi : pts[i]? = some (P i) := by
      show _ = some ((pts[i]?).getD (0,0))
      rw [List.getElem?_eq_getElem (by omega)]; rfl
     unfold oGo
     have : k = 0 ∨ k = 1 := by omega
     rcases this with rfl | rfl
     ·rw [show (i * 2 + 0) / 2 = i from by omega,show (i * 2 + 0) % 2 = 0 from by omega,hpi]
      simpa using hy
     ·rw [show (i * 2 + 1) / 2 = i from by omega,show (i * 2 + 1) % 2 = 1 from by omega,hpi]
      have hy : some (numV (P i).2) = some y := hy
      cases hy
      rfl
  have hE0 : StatOk w0 (baseE w0 hone) := base_stat
  refine (Kit.run hK (show (kitGo n (factsAt (tests n) j)).chk = true from rfl) hrun).callOk (hE := hE0) (VRL.cons ?_ VRL.nil) rfl
  show _ = (baseE w0 hone).sym 52
  rw [hE0.sym,s52]
end Go.Proofs.YtdkafeammgaknaaGreatDoor
namespace Go.Proofs.YtdkafeammgaknaaGreatDoor
open Go Ev Klp
noncomputable def restS : Code := sq2 (sq2 (sq2 (bodyOf Tryz.f3)))
noncomputable def gonS : Code := sq1 (sq2 restS)
noncomputable def tailS : Code := sq2 (sq2 restS)
theorem pre_wp {tb : Tab} {P : Program} {w0 : Base} (hT : TabOk tb P) (hF : FnOk tb P w0) {rounds n : Nat} {c : Code} {s : S} {outs : List Out} (h : code { tb := tb,rc := recN tb rounds n,inRound := none,rounds := rounds } c s = some outs)
  {E : Env} {a : Act} {w : World} (ho : Ok w0 E s.h.get s.nx w) (ht : TR E s.t a.tmps) (hm : s.m = []) (hd : a.defers = []) (hdst : dstOk a.tmps.size c = true) {QQ : Exit → Act → World → Prop}
  (hQ : ∀ o ∈ outs,∀ (a1 : Act) (w1 : World) (E1 : Env),At E s.h.get s.nx w a.tmps.size E1 o.2 a1 w1 → QQ (XE o.1) a1 w1) : c.wp P QQ a w := by
 refine (wpIn_wide (n := 0)).1 ?_
 have hfr : FR none = Fence.wide := rfl
 rw [← hfr]
 refine wpIn_mono (code_ok (cx := { tb := tb,rc := recN tb rounds n,inRound := none,rounds := rounds }) (r := none) hT hF (recN_ok hT hF (rounds := rounds) n) rfl rfl (N := a.tmps.size) c rfl h ho ht (by rw [hm,hd]; rfl) rfl hdst) ?_
 rintro e a1 w1 ⟨o,hmem,rfl,E1,hat⟩
 exact hQ o hmem a1 w1 E1 hat
def PairsRaw (M : Mem) (l : Value) (zs : List (Int × Int)) : Prop :=
 ∃ b cap,l = .slice b zs.length cap ∧ ∀ (i : Nat) (p : Int × Int),zs[i]? = some p → ∃ ad,b = some ad ∧ ad.block < M.heap.size ∧ M.frz ad.block ∧
  ∀ w : World,w.heap[ad.block]? = M.heap[ad.block]? → ∀ j y,([.int .i8 p.1,.int .i8 p.2] : List Value)[j]? = some y → w.cell? ((ad.add (i * 2)).add j) = some y
theorem PairsRaw.le {M M' : Mem} (hl : M.Le M') {l : Value} {zs : List (Int × Int)} (h : PairsRaw M l zs) : PairsRaw M' l zs := by
 obtain ⟨b,cap,e,h⟩ := h
 refine ⟨b,cap,e,fun i p hi => ?_⟩
 obtain ⟨ad,e1,h1,h2,h3⟩ := h i p hi
 obtain ⟨z,e2⟩ := hl.same _ h1 h2
 exact ⟨ad,e1,Nat.lt_of_lt_of_le h1 hl.size,z,fun w hw => h3 w (hw.trans e2)⟩
def tabA : List SE := ((List.range 33).map .opq) ++ ((List.range 12).map fun v => .int .i8 (P0 v)) ++ ((List.range 12).map fun v => .int .i64 (P0 v)) ++ [.int .i64 (P0 12),.int .i64 (P0 13),.num ⟨P0 12,1⟩,.num ⟨P0 13,1⟩] ++ (List.range 12).map fun v => .num ⟨P0 v,1⟩
def bdA : List Iv := [rg8,rg8,rg8,rg8,rg8,rg8,rg8,rg8,rg8,rg8,rg8,rg8,(-2,2),(-2,2)]
noncomputable def cxA (n : Nat) : CX := ⟨T.ofList .e 0 tabA,T.ofList .e 0 bdA,[],[(P0 0,3,P0 12),(P0 1,3,P0 13)],[(14,n)]⟩
def insA (n : Nat) : Ins := ⟨[],((List.range n).map fun i => (36,14,i,sy (15 + i))) ++ (List.range (2 * n)).map fun v => (23,15 + v / 2,v % 2,sy (21 + v)),(List.range (2 * n)).map fun v => (22,21 + v,[sy (33 + v)])⟩
noncomputable def kitA (n : Nat) : Kit := ⟨cxA n,[⟨.rem,sy 45,.int .i64 3,sy 57⟩,⟨.rem,sy 46,.int .i64 3,sy 58⟩],(List.range 12).map fun v => ⟨33 + v,.i64,sy (45 + v)⟩,
 (T.e : Rows).set 26 (bk ([([sy 57],sy 59),([sy 58],sy 60),([.int .i64 0],.str [48])] ++ (List.range 12).map fun v => ([sy (45 + v)],sy (61 + v)))),.e,.e,.e,insA n⟩
def quesA : List V := (List.range 14).map sy
noncomputable def sA : S := { t := (T.e.set 2 (sy 14)).set 7 (.ptr 64 0),h := boxH 64 [(quesA,52)],nx := 65,m := [] }
def headA (n : Nat) : List V := cond (Nat.beq n 0) (quesA.take 13) (quesA.take 7 ++ ([sy 59,sy 60,.str [48]] ++ (quesA.drop 10).take 3))
def ptsA (n : Nat) : List V := ((List.range (n - 1)).map fun i => [sy (63 + 2 * i),sy (64 + 2 * i)]).flatten
def polyA (n : Nat) : List Poly := ((List.range (n - 1)).map fun i => [P0 (2 + 2 * i),P0 (3 + 2 * i)]).flatten
noncomputable def outA (n : Nat) (o : Out) : Bool := (match o.1 with | .normal => true | _ => false) && o.2.m.isEmpty && (match o.2.t.get 7 with | some v => V.eq v (.ptr 64 0) | none => false) &&
 (match o.2.h.get 64 with
  | some (.cells cs ty 0 false) => Nat.beq ty 52 && Nat.beq cs.length 14 && V.eqL (cs.take 13) (headA n) && (match cs.drop 13 with
   | [.sym k] => Nat.beq n 0 && Nat.beq k 13
   | [.nils] => Nat.beq n 1
   | [.slice ne 0 k cap] => Nat.blt 1 n && Nat.beq k (n - 1) && Nat.ble k (cap / 2) && Nat.ble 65 ne && (match o.2.h.get ne with
    | some (.cells ps _ _ _) => V.eqL (ps.take (2 * k)) (ptsA n)
    | _ => false)
   | _ => false)
  | _ => false)
noncomputable def runA (n : Nat) : Bool := (kitA n).chk && (match code { tb := (kitA n).tab,rc := recN (kitA n).tab 10000 60,inRound := none,rounds := 10000 } gonS sA with
 | some outs => outs.all (outA n)
 | none => false)
set_option maxRecDepth 100000 in
theorem runA_all : ((List.range 7).all runA) = true := by kernel_rfl
theorem numsA_all : ((List.range 7).all fun n => numsIs (cxA n) (polyA n) (ptsA n) && numsIs (cxA n) [P0 12,P0 13] [sy 59,sy 60]) = true := by kernel_rfl
theorem gonS_dst : dstOk 140 gonS = true := by kernel_rfl
theorem und_pairs : tb0.und 36 = some (.slice 23) := by kernel_rfl
theorem und_pair : tb0.und 23 = some (.array 2 22) := by kernel_rfl
theorem size_pair : tb0.size 23 = some 2 := by kernel_rfl
theorem size_i8 : tb0.size 22 = some 1 := by kernel_rfl
theorem agg_i8 : tb0.isAgg 22 = some false := by kernel_rfl
theorem arr_run {tb : Tab} {P : Program} (hT : TabOk tb P) {t e sz n i : Nat} {a : Addr} (hd : tb.und t = some (.array n e)) (hs : tb.size e = some sz) (hi : i < n) (j : IntKind) (w : World) :
  (Instr.indexAt t (.pointer (some a)) (.int j (Int.ofNat i))).run P w = .ok (.pointer (some (a.add (i * sz)))) w := by
 have hu := hT.und _ _ hd
 have hin : (0 : Int) ≤ Int.ofNat i ∧ Int.ofNat i < (n : Int) := ⟨Int.natCast_nonneg i,Int.ofNat_lt.2 hi⟩
 simp only [Instr.indexAt,asIntOf,Instr.sureAddr,Sem.run_bind,Sem.run_pure,Result.andThen_ok,run_underlying hu,if_pos hin,size_run hT hs]
 rfl
def coord (zs : List (Int × Int)) (v : Nat) : Int := match zs[v / 2]? with | some p => cond (Nat.beq (v % 2) 0) p.1 p.2 | none => 0
def xSl (zs : List (Int × Int)) (v : Nat) : Int := if v < 12 then coord zs v else if v < 14 then (coord zs (v - 12)).tmod 3 else 0
def oSl (c : Nat → Value) (l : Value) (j : Nat) : Value := if j < 14 then c j else if j = 14 then l else match l with
 | .slice (some ad) _ _ => if j < 21 then .pointer (some (ad.add ((j - 15) * 2))) else .pointer (some ((ad.add (((j - 21) / 2) * 2)).add ((j - 21) % 2)))
 | _ => .nilFunc
def quesR (h : List Value) (f : Nat → Int) (pv : Value) : List Value := h ++ (nineR f ++ [pv])
def frA (f : Nat → Int) (zs : List (Int × Int)) (i : Nat) : Int := match zs with
 | [] => f i
 | p :: _ => if i = 3 then p.1.tmod 3 else if i = 4 then p.2.tmod 3 else if i = 5 then 0 else f i
def I8 (x : Int) : Prop := -128 ≤ x ∧ x ≤ 127
section
variable {M : Mem} (hg : Good M) {h4 : List Value} (hl4 : h4.length = 4) (h41 : ∀ x ∈ h4,oneV x) {f : Nat → Int} (hf : Nine f) {pts : List (Int × Int)} (hp5 : pts.length ≤ 5) (hpr : ∀ p ∈ pts,Rg p.1 ∧ Rg p.2) {pv : Value} (hpv : GonRaw M pts pv)
 {l : Value} {zs : List (Int × Int)} (hl : PairsRaw M l zs) (h6 : zs.length ≤ 6) (hz : ∀ p ∈ zs,I8 p.1 ∧ I8 p.2)
include hg hl4 h41 hf hp5 hpr hpv hl h6 hz
theorem coord_rg (v : Nat) : I8 (coord zs v) := by
 unfold coord
 cases h : zs[v / 2]? with
 | none => exact ⟨by simp,by simp⟩
 | some p =>
  have := hz p (List.mem_of_getElem? h)
  cases Nat.beq (v % 2) 0
  ·exact this.2
  ·exact this.1
theorem gon_run {w w1 : World} {a : Act} {p7 : Nat} (hon : M.On w1) (ts : a.tmps.size = 140) (t2 : a.tmps[2]? = some l) (t7 : a.tmps[7]? = some (.pointer (some ⟨p7,0,none⟩))) (hdf : a.defers = [])
  (hb7 : w1.heap[p7]? = some (.cells (quesR h4 f pv).toArray 52 (0,0))) (z7 : ¬ (p7 < M.heap.size ∧ M.frz p7)) {QQ : Exit → Act → World → Prop}
  (hQ : ∀ (M' : Mem) (f' : Nat → Int) (pts' : List (Int × Int)) (pv' : Value) (a2 : Act) (w2 : World),M.Le M' → M'.On w2 → a2.tmps.size = 140 → a2.tmps[7]? = some (.pointer (some ⟨p7,0,none⟩)) → a2.defers = [] →
   w2.heap[p7]? = some (.cells (quesR h4 f' pv').toArray 52 (0,0)) → ¬ (p7 < M'.heap.size ∧ M'.frz p7) → Grew w1 w2 → (∀ b,b < w1.heap.size → b ≠ p7 → w2.heap[b]? = w1.heap[b]?) →
   Nine f' → pts'.length ≤ 5 → (∀ p ∈ pts',Rg p.1 ∧ Rg p.2) → GonRaw M' pts' pv' → QQ .normal a2 w2) : gonS.wp Tryz.prog QQ a w1 := by
 have opv : oneV pv := by obtain ⟨_,_,rfl⟩ := hpv.slice; trivial
 have ol : oneV l := by obtain ⟨_,_,rfl,_⟩ := hl; trivial
 let c : Nat → Value := fun j => ((quesR h4 f pv)[j]?).getD .nilFunc
 have hq1 : ∀ x ∈ quesR h4 f pv,oneV x := fun x hx => by
  simp only [quesR,nineR,List.mem_append,List.mem_map,List.mem_singleton] at hx
  rcases hx with hx | ⟨i,_,rfl⟩ | rfl
  ·exact h41 x hx
  ·trivial
  ·exact opv
 have hql : (quesR h4 f pv).length = 14 := by simp [quesR,nineR,hl4]
 have oc : ∀ j,oneV (c j) := fun j => by
  show oneV (((quesR h4 f pv)[j]?).getD .nilFunc)
  cases h : (quesR h4 f pv)[j]? with
  | none => trivial
  | some x => exact hq1 x (List.mem_of_getElem? h)
 let x := xSl zs
 let o := oSl c l
 have oo : ∀ j,oneV (o j) := fun j => by
  show oneV (oSl c l j)
  unfold oSl
  split
  ·exact oc j
  ·split
   ·exact ol
   ·split
    ·split <;> trivial
    ·trivial
 let n := zs.length
 let B : Base := { toMem := M,sym := symX x o (T.ofList .e 0 tabA) }
 have hone : ∀ i,oneV (B.sym i) := fun i => symX_one oo i
 have getT : ∀ i,(T.ofList .e 0 tabA : T SE).get i = tabA[i]? := fun i => by
  rw [T.get_ofList]
  split
  ·rw [Nat.sub_zero]
  ·rename_i hi
   rw [T.get_e,List.getElem?_eq_none (by omega)]
 have sO : ∀ j,j < 33 → B.sym j = o j := fun j hj => by
  show symX x o _ j = o j
  unfold symX
  rw [getT]
  have : tabA[j]? = some (.opq j) := by
   unfold tabA
   simp only [List.append_assoc]
   rw [List.getElem?_append_left (by simpa using hj),List.getElem?_map,List.getElem?_range hj]; rfl
  rw [this]
 have sI : ∀ v,v < 12 → B.sym (33 + v) = .int .i8 (coord zs v) := fun v hv => by
  show symX x o _ (33 + v) = _
  unfold symX
  rw [getT]
  have : tabA[33 + v]? = some (.int .i8 (P0 v)) := by
   unfold tabA
   simp only [List.append_assoc]
   rw [List.getElem?_append_right (by simp),List.getElem?_append_left (by simp; omega)]
   simp [List.getElem?_range hv]
  rw [this]
  simp only [ev_P0]
  show Value.int .i8 (xSl zs v) = _
  unfold xSl
  rw [if_pos hv]
 have t3 : ∀ z : Int,-2 ≤ z.tmod 3 ∧ z.tmod 3 ≤ 2 := fun z => tmod_rg (z := z) (n := 3) (by omega)
 have hcr := coord_rg hg hl4 h41 hf hp5 hpr hpv hl h6 hz
 have hC : CXOk B x o (cxA n) := by
  refine ⟨fun _ _ _ => rfl,fun v => ?_,(fun f hf => by cases hf),(fun r hr => ?_),(fun p hp => ?_),oo,hg.pow _ _,hg.tabs⟩
  ·have := bd_of (l := bdA) (zs := [coord zs 0,coord zs 1,coord zs 2,coord zs 3,coord zs 4,coord zs 5,coord zs 6,coord zs 7,coord zs 8,coord zs 9,coord zs 10,coord zs 11,(coord zs 0).tmod 3,(coord zs 1).tmod 3])
    ⟨hcr _,hcr _,hcr _,hcr _,hcr _,hcr _,hcr _,hcr _,hcr _,hcr _,hcr _,hcr _,t3 _,t3 _,trivial⟩ v
   have e : x v = (([coord zs 0,coord zs 1,coord zs 2,coord zs 3,coord zs 4,coord zs 5,coord zs 6,coord zs 7,coord zs 8,coord zs 9,coord zs 10,coord zs 11,(coord zs 0).tmod 3,(coord zs 1).tmod 3] : List Int)[v]?).getD 0 := by
    show xSl zs v = _
    by_cases hv : v < 14
    ·have : v = 0 ∨ v = 1 ∨ v = 2 ∨ v = 3 ∨ v = 4 ∨ v = 5 ∨ v = 6 ∨ v = 7 ∨ v = 8 ∨ v = 9 ∨ v = 10 ∨ v = 11 ∨ v = 12 ∨ v = 13 := by omega
     rcases this with rfl | rfl | rfl | rfl | rfl | rfl | rfl | rfl | rfl | rfl | rfl | rfl | rfl | rfl <;> rfl
    ·unfold xSl
     rw [if_neg (by omega),if_neg hv,List.getElem?_eq_none (by simp; omega)]; rfl
   rw [e]; exact this
  ·have hr : r ∈ [(P0 0,3,P0 12),(P0 1,3,P0 13)] := hr
   simp only [List.mem_cons,List.not_mem_nil,or_false] at hr
   rcases hr with rfl | rfl <;> (simp only [ev_P0]; rfl)
  ·have hp : p ∈ [(14,n)] := hp
   rw [List.mem_singleton.1 hp]
   obtain ⟨b,cap,e,_⟩ := hl
   exact ⟨b,cap,by rw [show B.sym 14 = o 14 from sO 14 (by omega)]; exact e⟩
 obtain ⟨lb,lcap,rfl,hel⟩ := id hl
 have s14 : B.sym 14 = .slice lb n lcap := sO 14 (by omega)
 have hpl : ∀ i,i < n → ∃ ad,lb = some ad ∧ B.sym (15 + i) = .pointer (some (ad.add (i * 2))) ∧ ∀ j,j < 2 → B.sym (21 + (2 * i + j)) = .pointer (some ((ad.add (i * 2)).add j)) := fun i hi => by
  have hi6 : i < 6 := by have : n ≤ 6 := h6; omega
  obtain ⟨ad,rfl,_⟩ := hel i zs[i] (List.getElem?_eq_getElem hi)
  refine ⟨ad,rfl,?_,fun j hj => ?_⟩
  ·rw [sO _ (by omega)]
   show oSl c _ (15 + i) = _
   unfold oSl
   rw [if_neg (by omega),if_neg (by omega)]
   simp only
   rw [if_pos (by omega),show 15 + i - 15 = i from by omega]
  ·rw [sO _ (by omega)]
   show oSl c _ (21 + (2 * i + j)) = _
   unfold oSl
   rw [if_neg (by omega),if_neg (by omega)]
   simp only
   rw [if_neg (by omega),show (21 + (2 * i + j) - 21) / 2 = i from by omega,show (21 + (2 * i + j) - 21) % 2 = j from by omega]
 have hK : KitOk B x o (kitA n) := by
  refine ⟨hC,(fun f args v hv => by simp [kitA,primOf,T.get_e] at hv),(fun f es he => by simp [kitA,T.get_e] at he),(fun m cs hm => by simp [kitA,T.get_e] at hm),(fun p hp => by cases hp),(fun p hp => ?_),(fun p hp => ?_)⟩
  ·have hp : p ∈ ((List.range n).map fun i => (36,14,i,sy (15 + i))) ++ (List.range (2 * n)).map fun v => (23,15 + v / 2,v % 2,sy (21 + v)) := hp
   intro E hE j w
   rcases List.mem_append.1 hp with hp | hp
   ·obtain ⟨i,hi,rfl⟩ := List.mem_map.1 hp
    have hi := List.mem_range.1 hi
    obtain ⟨ad,rfl,h1,_⟩ := hpl i hi
    refine ⟨.pointer (some (ad.add (i * 2))),?_,?_⟩
    ·simp only
     rw [s14]
     exact adr_run tabOk und_pairs size_pair hi j w
    ·show _ = E.sym (15 + i)
     rw [hE.sym,h1]
   ·obtain ⟨v,hv,rfl⟩ := List.mem_map.1 hp
    have hv := List.mem_range.1 hv
    obtain ⟨ad,rfl,h1,h2⟩ := hpl (v / 2) (by omega)
    have h3 := h2 (v % 2) (by omega)
    rw [show 21 + (2 * (v / 2) + v % 2) = 21 + v from by omega] at h3
    refine ⟨.pointer (some ((ad.add (v / 2 * 2)).add (v % 2))),?_,?_⟩
    ·simp only
     rw [h1]
     have := arr_run tabOk (a := ad.add (v / 2 * 2)) und_pair size_i8 (i := v % 2) (by omega) j w
     rw [Nat.mul_one] at this
     exact this
    ·show _ = E.sym (21 + v)
     rw [hE.sym,h3]
  ·have hp : p ∈ (List.range (2 * n)).map fun v => (22,21 + v,[sy (33 + v)]) := hp
   obtain ⟨v,hv,rfl⟩ := List.mem_map.1 hp
   have hv := List.mem_range.1 hv
   have hn6 : n ≤ 6 := h6
   obtain ⟨ad,e1,h1,h2⟩ := hpl (v / 2) (by omega)
   have h3 := h2 (v % 2) (by omega)
   rw [show 21 + (2 * (v / 2) + v % 2) = 21 + v from by omega] at h3
   have hzi : zs[v / 2]? = some (zs[v / 2]'(by show v / 2 < n; omega)) := List.getElem?_eq_getElem _
   obtain ⟨ad',e2,g1,g2,g3⟩ := hel (v / 2) _ hzi
   rw [e1] at e2; cases e2
   have eb : ((ad.add (v / 2 * 2)).add (v % 2)).block = ad.block := by
    have q : ∀ (a : Addr) (k : Nat),(a.add k).block = a.block := fun a k => by unfold Addr.add; split <;> rfl
    rw [q,q]
   refine ⟨(ad.add (v / 2 * 2)).add (v % 2),[.int .i8 (coord zs v)],h3,.inr ⟨agg_i8,rfl⟩,fun E hE => VRL.cons ?_ VRL.nil,by rw [eb]; exact ⟨g1,g2⟩,fun w hw j y hy => ?_⟩
   ·show _ = E.sym (33 + v)
    rw [hE.sym,sI v (by omega)]
   ·rw [eb] at hw
    cases j with
    | succ j => simp at hy
    | zero =>
     simp at hy
     subst hy
     have e0 : ((ad.add (v / 2 * 2)).add (v % 2)).add 0 = (ad.add (v / 2 * 2)).add (v % 2) := by simp [Addr.add]
     rw [e0]
     refine g3 w hw (v % 2) _ ?_
     unfold coord
     rw [hzi]
     have : v % 2 = 0 ∨ v % 2 = 1 := by omega
     rcases this with e | e <;> rw [e] <;> rfl
 have hbs : BoxesOk B w1 [⟨p7,quesA,quesR h4 f pv,52⟩] := by
  refine ⟨hon,fun b hb => ?_,fun b hb E hE => ?_,fun i j x y hi hj he => ?_,fun b hb => ?_⟩
  ·rw [List.mem_singleton.1 hb]; exact hb7
  ·rw [List.mem_singleton.1 hb]
   refine VRL.of_get (by simp [quesA,hql]) fun k v y h2 h3 => ?_
   have hk : k < 14 := by
    have := (List.getElem?_eq_some_iff.1 h3).1
    rw [hql] at this; exact this
   simp only [quesA,List.getElem?_map,List.getElem?_range hk,Option.map_some,Option.some.injEq] at h2
   subst h2
   show y = E.sym k
   rw [hE.sym,sO k (by omega)]
   show y = oSl c _ k
   unfold oSl
   rw [if_pos hk]
   show y = ((quesR h4 f pv)[k]?).getD .nilFunc
   rw [h3]; rfl
  ·match i,j,hi,hj with
   | 0,0,_,_ => rfl
   | n + 1,_,hi,_ => simp at hi
   | 0,n + 1,_,hj => simp at hj
  ·rw [List.mem_singleton.1 hb]; exact z7
 have hok := boxes_ok (h := hone) hbs
 have hfoot : ∀ b,Foot (boxE B hone [⟨p7,quesA,quesR h4 f pv,52⟩]) sA.h.get b → b = p7 := by
  intro b hf
  obtain ⟨x,hx,rfl⟩ := boxes_foot (l := [⟨p7,quesA,quesR h4 f pv,52⟩]) hf
  rw [List.mem_singleton.1 hx]
 have htr : TR (boxE B hone [⟨p7,quesA,quesR h4 f pv,52⟩]) sA.t a.tmps := by
  intro k v hk
  have hk : ((T.e.set 2 (sy 14)).set 7 (.ptr 64 0) : T V).get k = some v := hk
  rw [T.get_set] at hk
  by_cases c7 : k = 7
  ·rw [if_pos c7] at hk; cases hk; subst c7; exact ⟨_,t7,_,boxE_at (j := 0) rfl,rfl⟩
  ·rw [if_neg c7,T.get_set] at hk
   by_cases c2 : k = 2
   ·rw [if_pos c2] at hk; cases hk; subst c2; exact ⟨_,t2,by show _ = B.sym 14; rw [s14]⟩
   ·rw [if_neg c2,T.get_e] at hk; cases hk
 have hrun := List.all_eq_true.1 runA_all n (List.mem_range.2 (by have : n ≤ 6 := h6; omega))
 simp only [runA,Bool.and_eq_true] at hrun
 obtain ⟨hchk,hrun⟩ := hrun
 split at hrun
 ·rename_i outs hcode
  refine pre_wp (kitA n).tabOk ((kitA n).fnOk hK hchk) hcode hok htr rfl hdf (by rw [ts]; exact gonS_dst) fun o1 ho1 a2 w2 E2 hat => ?_
  have hro := List.all_eq_true.1 hrun o1 ho1
  have hok2 := hok.step hat.step
  unfold outA at hro
  simp only [Bool.and_eq_true] at hro
  obtain ⟨⟨⟨k1,k2⟩,k3⟩,k7⟩ := hro
  have hx : XE o1.1 = .normal := by
   cases h : o1.1 <;> rw [h] at k1 <;> first | rfl | cases k1
  rw [hx]
  have e64 : E2.at_ 64 = some { blk := p7,size := (quesR h4 f pv).length,unit := 0 } := hat.step.le.2 _ _ (boxE_at (j := 0) (l := [⟨p7,quesA,quesR h4 f pv,52⟩]) rfl)
  have ty7 : a2.tmps[7]? = some (.pointer (some ⟨p7,0,none⟩)) := by
   split at k3
   ·rename_i u hu
    obtain ⟨y,hy,hv⟩ := hat.tr 7 u hu
    rw [V.eq_eq _ _ k3] at hv
    obtain ⟨i,hi,rfl⟩ := hv
    rw [e64] at hi; cases hi
    exact hy
   ·cases k3
  have hmd : a2.defers = [] := by
   have hm := hat.marks
   cases hml : o1.2.m with
   | nil => rw [hml] at hm; exact hm
   | cons _ _ => rw [hml] at k2; cases k2
  split at k7
  ·rename_i cs t6 g6
   simp only [Bool.and_eq_true] at k7
   obtain ⟨⟨⟨j0,jl⟩,j1⟩,j2⟩ := k7
   have j0 := nbeq_true j0
   have jl := nbeq_true jl
   have j1 := V.eqL_eq _ _ j1
   subst j0
   obtain ⟨i6,hi6,_,rc6,f6,u1,u2,u3,xs6,rest6,hx6,hr6⟩ := hok2.rel.obj _ _ g6
   rw [e64] at hi6; cases hi6
   have hl6 : rest6 = [] := by
    have h1 := congrArg List.length hr6
    have h2 := hx6.length
    simp only [List.length_append,Array.length_toList] at h1
    have u2 : rc6.size = (quesR h4 f pv).length := u2
    exact List.length_eq_zero_iff.1 (by omega)
   rw [hl6,List.append_nil] at hr6
   have hb : w2.heap[p7]? = some (.cells xs6.toArray 52 (0,0)) := by
    have e : rc6 = xs6.toArray := by rw [← hr6]
    rw [← e,← u3 rfl]; exact u1
   have hcells : ∀ E,StatOk B E → VRL E quesA (quesR h4 f pv) := fun E hE => by
    refine VRL.of_get (by simp [quesA,hql]) fun k v y h2 h3 => ?_
    have hk : k < 14 := by
     have := (List.getElem?_eq_some_iff.1 h3).1
     rw [hql] at this; exact this
    simp only [quesA,List.getElem?_map,List.getElem?_range hk,Option.map_some,Option.some.injEq] at h2
    subst h2
    show y = E.sym k
    rw [hE.sym,sO k (by omega)]
    show y = oSl c _ k
    unfold oSl
    rw [if_pos hk]
    show y = ((quesR h4 f pv)[k]?).getD .nilFunc
    rw [h3]; rfl
   have hnums := List.all_eq_true.1 numsA_all n (List.mem_range.2 (by have : n ≤ 6 := h6; omega))
   simp only [Bool.and_eq_true] at hnums
   have hc2 := hcells E2 hok2.sym
   have hfrz : ∀ b,b < w1.heap.size → b ≠ p7 → w2.heap[b]? = w1.heap[b]? := fun b hb n7 => hat.step.frame b hb (fun hf => n7 (hfoot b hf))
   obtain ⟨a0,a1,a2',a3,rfl⟩ : ∃ a b c d,h4 = [a,b,c,d] := by
    match h4,hl4 with
    | [a,b,c,d],_ => exact ⟨a,b,c,d,rfl⟩
   have hh := hx6.take 13
   rw [j1] at hh
   have hhead : VRL E2 (headA n) ([a0,a1,a2',a3] ++ nineR (frA f zs)) := by
    cases hzs : zs with
    | nil =>
     have hn0 : n = 0 := by show zs.length = 0; rw [hzs]; rfl
     rw [hn0]
     exact hc2.take 13
    | cons p zr =>
     have hn0 : n ≠ 0 := by show zs.length ≠ 0; rw [hzs]; simp
     unfold headA
     rw [nbeq_false hn0,cond_false]
     have h2 := numsIs_ok hC hok2.sym hnums.2
     simp only [List.map_cons,List.map_nil,ev_P0] at h2
     have x12 : x 12 = p.1.tmod 3 := by show (coord zs 0).tmod 3 = _; rw [hzs]; rfl
     have x13 : x 13 = p.2.tmod 3 := by show (coord zs 1).tmod 3 = _; rw [hzs]; rfl
     rw [x12,x13] at h2
     obtain ⟨_,_,e0,v0,_,_,e1,v1,_⟩ := h2
     cases e0; cases e1
     have n0 : strB [48] = numV 0 := by unfold numV; rw [show (((0 : Int)) : Rat) = 0 from rfl,canon_zero]; rfl
     exact (hc2.take 7).append ((VRL.cons v0 (VRL.cons v1 (VRL.cons (show VR E2 (.str [48]) (numV 0) from n0.symm) VRL.nil))).append ((hc2.drop 10).take 3))
   have e13 := VRL.det _ _ _ hh hhead
   have hd := hx6.drop 13
   have hnine : Nine (frA f zs) := fun i hi => by
    unfold frA
    cases zs with
    | nil => exact hf i hi
    | cons p zr =>
     simp only
     have r1 := t3 p.1
     have r2 := t3 p.2
     split
     ·omega
     ·split
      ·omega
      ·split
       ·omega
       ·exact hf i hi
   have fin : ∀ (q : Nat → Prop) (pts' : List (Int × Int)) (pv' : Value),(∀ b,q b → b ≠ p7) → xs6.drop 13 = [pv'] → pts'.length ≤ 5 → (∀ p ∈ pts',Rg p.1 ∧ Rg p.2) → GonRaw ⟨w2.heap,fun b => (b < M.heap.size ∧ M.frz b) ∨ q b⟩ pts' pv' → QQ .normal a2 w2 := fun q pts' pv' hq he h5 hr hgon => by
    refine hQ ⟨w2.heap,fun b => (b < M.heap.size ∧ M.frz b) ∨ q b⟩ (frA f zs) pts' pv' a2 w2 ⟨hok2.inv.size,fun b hb hz => ⟨.inl ⟨hb,hz⟩,hok2.inv.same b hb hz⟩⟩ ⟨Nat.le_refl _,fun _ _ _ => rfl⟩ (by rw [hat.size,ts]) ty7 hmd ?_ (fun hz => ?_) hat.step.grew hfrz hnine h5 hr hgon
    ·have : xs6 = quesR [a0,a1,a2',a3] (frA f zs) pv' := by
      rw [← List.take_append_drop 13 xs6,e13,he]
      unfold quesR
      rw [List.append_assoc]
     rw [← this]; exact hb
    ·rcases hz.2 with h | h
     ·exact z7 h
     ·exact hq _ h rfl
   split at j2
   ·rename_i k hcd
    simp only [Bool.and_eq_true] at j2
    have e0 := nbeq_true j2.1
    have e1 := nbeq_true j2.2
    subst e1
    rw [hcd] at hd
    obtain ⟨y,ys,he,hy,hn⟩ := hd
    rw [show ys = [] from hn] at he
    have : y = pv := by
     rw [show y = E2.sym 13 from hy,hok2.sym.sym,sO 13 (by omega)]
     rfl
    subst this
    exact fin (fun _ => False) pts y (fun _ h => h.elim) he hp5 hpr (hpv.le (M' := ⟨w2.heap,fun b => (b < M.heap.size ∧ M.frz b) ∨ False⟩) ⟨hok2.inv.size,fun b hb hz => ⟨Or.inl ⟨hb,hz⟩,hok2.inv.same b hb hz⟩⟩)
   ·rename_i hcd
    rw [hcd] at hd
    obtain ⟨y,ys,he,hy,hn⟩ := hd
    rw [show ys = [] from hn,show y = Value.slice none 0 0 from hy] at he
    exact fin (fun _ => False) [] _ (fun _ h => h.elim) he (by simp) (fun p hp => by cases hp) (.inl ⟨rfl,_,_,rfl⟩)
   ·rename_i ne k cap hcd
    simp only [Bool.and_eq_true] at j2
    obtain ⟨⟨⟨⟨i1,i2⟩,i3⟩,i4⟩,i5⟩ := j2
    have i1 := nblt_lt i1
    have i2 := nbeq_true i2
    have i3 := nble_le i3
    have i4 := nble_le i4
    rw [hcd] at hd
    obtain ⟨y,ys,he,hy,hn⟩ := hd
    rw [show ys = [] from hn] at he
    split at i5
    ·rename_i ps te ue ze hne
     obtain ⟨ie,hie,rfl⟩ := hy
     obtain ⟨ie',hie',_,rce,fre,r1,r2,r3,xse,reste,hxe,hre⟩ := hok2.rel.obj _ _ hne
     rw [hie] at hie'; cases hie'
     have htk := hxe.take (2 * k)
     rw [V.eqL_eq _ _ i5] at htk
     have hn2 := numsIs_ok hC hok2.sym hnums.1
     have en : (polyA n).map (fun q => numV (Poly.ev x q)) = (zs.tail.map fun p => [numV p.1,numV p.2]).flatten := by
      unfold polyA
      rw [List.map_flatten,List.map_map]
      congr 1
      refine List.ext_getElem? fun i => ?_
      rw [List.getElem?_map,List.getElem?_map,List.getElem?_tail]
      by_cases hi : i < n - 1
      ·rw [List.getElem?_range hi,Option.map_some,List.getElem?_eq_getElem (show i + 1 < zs.length by show i + 1 < n; omega),Option.map_some]
       have hn6 : n ≤ 6 := h6
       have cx : ∀ v,v < 12 → x v = coord zs v := fun v hv => by show xSl zs v = _; unfold xSl; rw [if_pos hv]
       simp only [Function.comp,List.map_cons,List.map_nil,ev_P0]
       rw [cx _ (by omega),cx _ (by omega)]
       unfold coord
       rw [show (2 + 2 * i) / 2 = i + 1 from by omega,show (2 + 2 * i) % 2 = 0 from by omega,show (3 + 2 * i) / 2 = i + 1 from by omega,show (3 + 2 * i) % 2 = 1 from by omega,List.getElem?_eq_getElem (show i + 1 < zs.length by show i + 1 < n; omega)]
       rfl
      ·rw [List.getElem?_eq_none (by simp; omega),List.getElem?_eq_none (by show n ≤ i + 1; omega)]; rfl
     rw [en] at hn2
     have hex := VRL.det _ _ _ htk hn2
     have htl : zs.tail.length = k := by rw [List.length_tail,i2]
     have hne7 : ie.blk ≠ p7 := fun h => by
      have := hok2.rel.inj 64 ne _ _ _ ie g6 hne e64 hie h.symm
      omega
     refine fin (fun b => b = ie.blk) zs.tail _ (fun b hb => by rw [hb]; exact hne7) he (by rw [htl]; have : n ≤ 6 := h6; omega) (fun p hp => ?_) (.inr ⟨ie.blk,capOf ie 0 cap,rce,te,fre,xse.drop (2 * k) ++ reste,by rw [htl],?_,.inr rfl,r1,by rw [hre,← hex,← List.append_assoc,List.take_append_drop]⟩)
     ·have := hz p (List.mem_of_mem_tail hp)
      exact ⟨⟨this.1.1,by have := this.1.2; omega⟩,⟨this.2.1,by have := this.2.2; omega⟩⟩
     ·rw [htl]
      unfold capOf
      split
      ·exact i3
      ·exact Nat.le_trans i3 (Nat.le_max_left _ _)
    ·cases i5
   ·cases j2
  ·cases k7
 ·cases hrun
end
end Go.Proofs.YtdkafeammgaknaaGreatDoor
namespace Go.Proofs.YtdkafeammgaknaaGreatDoor
open Go Ev Klp
def LawP (w : World) (e : Ending) (w' : World) : Prop := e = .returned (.bool true) ∧ Grew w w' ∧ ∀ b,b < w.heap.size → w'.heap[b]? = w.heap[b]?
noncomputable def cxB : CX := ⟨T.ofList .e 0 ((List.range 14).map .opq ++ [.int .i64 (P0 0)]),T.ofList .e 0 [(0,40)],[(P0 0,⟨false,false,true⟩)],[],[]⟩
noncomputable def kitB (m : Memo) : Kit := ⟨cxB,[],[],.e,tmk m,.e,.e,⟨[],[],[]⟩⟩
def histB : V := .agg (quesA.take 4)
def frameB : V := .agg ((quesA.drop 4).take 9)
def mHB (v : V) : Nat × List (List V × V) := (10,[([histB],v)])
def mLB (v : V) : Nat × List (List V × V) := (11,[([frameB],v)])
def mCB (v : V) : Nat × List (List V × V) := (37,[([frameB],v)])
def mPB (v : V) : Nat × List (List V × V) := (12,[([sy 13],v)])
noncomputable def sB : S := { t := (T.e.set 7 (.ptr 64 0)),h := boxH 64 [(quesA,52)],nx := 65,m := [] }
noncomputable def runB (m : Memo) : Bool := match tailRun (kitB m).tab 10000 60 Tryz.f3 tailS sB with
 | some rs => rs.all fun r => V.eq r.1 (.bool true)
 | none => false
set_option maxRecDepth 100000 in
theorem runB1 : runB [mHB (sy 14)] = true := by kernel_rfl
set_option maxRecDepth 100000 in
theorem runB2 : runB [mHB (.int .i64 0),mLB (sy 14),mCB (sy 14)] = true := by kernel_rfl
set_option maxRecDepth 100000 in
theorem runB3 : runB [mHB (.int .i64 0),mLB (.int .i64 0),mCB (.int .i64 0),mPB (sy 14)] = true := by kernel_rfl
set_option maxRecDepth 100000 in
theorem runB4 : runB [mHB (.int .i64 0),mLB (.int .i64 0),mCB (.int .i64 0),mPB (.int .i64 0)] = true := by kernel_rfl
theorem tailS_dst : dstOk 140 tailS = true := by kernel_rfl
theorem memos_nil {P : Program} {w0 : Base} : Memos P w0 [] := fun _ h => by cases h
theorem memos_cons {P : Program} {w0 : Base} {f : Nat} {a : List V} {v : V} {l : Memo} (h : Contract P w0 f a v) (hl : Memos P w0 l) : Memos P w0 ((f,[(a,v)]) :: l) := fun q hq p hp => by
 rcases List.mem_cons.1 hq with rfl | hq
 ·rw [List.mem_singleton.1 hp]; exact h
 ·exact hl q hq p hp
def oB (l : List Value) (j : Nat) : Value := (l[j]?).getD .nilFunc
def xB (z : Int) (v : Nat) : Int := if v = 0 then z else 0
noncomputable def baseB' (M : Mem) (l : List Value) (z : Int) : Base := { toMem := M,sym := symX (xB z) (oB l) cxB.tab }
section
variable {M : Mem} (hg : Good M) {l : List Value} (hl : l.length = 14) (h1 : ∀ x ∈ l,oneV x) {z : Int} (hz : 0 < z ∧ z ≤ 40)
include h1 in
theorem oB_one (j : Nat) : oneV (oB l j) := by
 unfold oB
 cases h : l[j]? with
 | none => trivial
 | some x => exact h1 x (List.mem_of_getElem? h)
theorem getB (j : Nat) : cxB.tab.get j = (((List.range 14).map SE.opq ++ [.int .i64 (P0 0)]) : List SE)[j]? := by
 show (T.ofList .e 0 _).get j = _
 rw [T.get_ofList]
 split
 ·rw [Nat.sub_zero]
 ·rename_i hi
  rw [T.get_e,List.getElem?_eq_none (by omega)]
theorem symB_c {j : Nat} (hj : j < 14) : (baseB' M l z).sym j = oB l j := by
 show symX (xB z) (oB l) cxB.tab j = _
 unfold symX
 rw [getB,List.getElem?_append_left (by simpa using hj),List.getElem?_map,List.getElem?_range hj]; rfl
theorem symB_z : (baseB' M l z).sym 14 = .int .i64 z := by
 show symX (xB z) (oB l) cxB.tab 14 = _
 unfold symX
 rw [getB,show (((List.range 14).map SE.opq ++ [.int .i64 (P0 0)]) : List SE)[14]? = some (.int .i64 (P0 0)) from rfl]
 simp only [ev_P0]; rfl
include hl in
theorem cellsB {E : Env} (hE : StatOk (baseB' M l z) E) : VRL E quesA l := by
 refine VRL.of_get (by simp [quesA,hl]) fun k v y h2 h3 => ?_
 have hk : k < 14 := by
  have := (List.getElem?_eq_some_iff.1 h3).1
  rw [hl] at this; exact this
 simp only [quesA,List.getElem?_map,List.getElem?_range hk,Option.map_some,Option.some.injEq] at h2
 subst h2
 show y = E.sym k
 rw [hE.sym,symB_c hk]
 unfold oB
 rw [h3]; rfl
theorem vzB {E : Env} (hE : StatOk (baseB' M l z) E) : VR E (sy 14) (.int .i64 z) := by show _ = E.sym 14; rw [hE.sym,symB_z]
include hg h1 hz in
theorem kitB_ok {m : Memo} (hm : Memos Tryz.prog (baseB' M l z) m) : KitOk (baseB' M l z) (xB z) (oB l) (kitB m) := by
 refine ⟨⟨fun _ _ _ => rfl,fun v => ?_,fact_cons ?_ (fact_nil _),(fun r hr => by cases hr),(fun p hp => by cases hp),oB_one h1,hg.pow _ _,hg.tabs⟩,fun f args v hv => tmk_prim hm hv,(fun f es he => by simp [kitB,T.get_e] at he),
  (fun n cs hn => by simp [kitB,T.get_e] at hn),(fun p hp => by cases hp),(fun p hp => by cases hp),(fun p hp => by cases hp)⟩
 ·show Iv.has (((T.ofList .e 0 [(0,40)] : T Iv).get v).getD (0,0)) (xB z v)
  rw [T.get_ofList]
  by_cases hv : v = 0
  ·subst hv
   exact ⟨Int.le_of_lt hz.1,hz.2⟩
  ·rw [if_neg (by simp; omega),T.get_e]
   show Iv.has (0,0) (if v = 0 then z else 0)
   rw [if_neg hv]
   exact ⟨Int.le_refl _,Int.le_refl _⟩
 ·rw [ev_P0]
  exact ⟨fun e => by have : xB z 0 = z := rfl; omega,fun e => by have : xB z 0 = z := rfl; omega,fun _ => rfl⟩
variable {w w1 : World} {a : Act} {p7 : Nat} (hon : M.On w1) (ts : a.tmps.size = 140) (t7 : a.tmps[7]? = some (.pointer (some ⟨p7,0,none⟩))) (hdf : a.defers = [])
 (hb7 : w1.heap[p7]? = some (.cells l.toArray 52 (0,0))) (z7 : ¬ (p7 < M.heap.size ∧ M.frz p7)) (hgr : Grew w w1) (hfr : ∀ b,b < w.heap.size → w1.heap[b]? = w.heap[b]?) (q7 : w.heap.size ≤ p7)
include hg hl h1 hon ts t7 hdf hb7 z7 hgr hfr q7
include hz in
theorem tailB_run {m : Memo} (hm : Memos Tryz.prog (baseB' M l z) m) (hrun : runB m = true) : tailS.wp Tryz.prog (bodyPost Tryz.prog Tryz.f3 (LawP w)) a w1 := by
 have hK := kitB_ok hg h1 hz hm
 have hone : ∀ i,oneV ((baseB' M l z).sym i) := fun i => symX_one (oB_one h1) i
 let bs : List Box := [⟨p7,quesA,l,52⟩]
 have hbs : BoxesOk (baseB' M l z) w1 bs := by
  refine ⟨hon,fun b hb => ?_,fun b hb E hE => ?_,fun i j x y hi hj he => ?_,fun b hb => ?_⟩
  ·rw [List.mem_singleton.1 hb]; exact hb7
  ·rw [List.mem_singleton.1 hb]
   exact cellsB hl hE
  ·match i,j,hi,hj with
   | 0,0,_,_ => rfl
   | n + 1,_,hi,_ => simp [bs] at hi
   | 0,n + 1,_,hj => simp [bs] at hj
  ·rw [List.mem_singleton.1 hb]; exact z7
 have hok := boxes_ok (h := hone) hbs
 have hfoot : ∀ b,Foot (boxE (baseB' M l z) hone bs) sB.h.get b → b = p7 := by
  intro b hf
  obtain ⟨x,hx,rfl⟩ := boxes_foot (l := bs) hf
  rw [List.mem_singleton.1 hx]
 have htr : TR (boxE (baseB' M l z) hone bs) sB.t a.tmps := by
  intro k v hk
  have hk : ((T.e : T V).set 7 (.ptr 64 0)).get k = some v := hk
  rw [T.get_set] at hk
  by_cases c7 : k = 7
  ·rw [if_pos c7] at hk; cases hk; subst c7; exact ⟨_,t7,_,boxE_at (j := 0) rfl,rfl⟩
  ·rw [if_neg c7,T.get_e] at hk; cases hk
 unfold runB at hrun
 split at hrun
 ·rename_i rs hrs
  refine tail_wp (kitB m).tabOk ((kitB m).fnOk hK rfl) hrs hok htr rfl hdf (by rw [ts]; exact tailS_dst) fun r hr x E' w' hx hst => ?_
  have hro := V.eq_eq _ _ (List.all_eq_true.1 hrun r hr)
  rw [hro] at hx
  refine ⟨by rw [show x = .bool true from hx],hgr.trans hst.grew,fun b hb => ?_⟩
  rw [hst.frame b (Nat.lt_of_lt_of_le hb hgr.size) (fun hf => by have := hfoot b hf; omega),hfr b hb]
 ·cases hrun
theorem checksB {h zf u : Int} (hh : 0 ≤ h ∧ h ≤ 40) (hhist : CallOk Tryz.prog M 10 [.agg (l.take 4).toArray] (.int .i64 h)) (hzf : 0 ≤ zf ∧ zf ≤ 40) (hlaw : CallOk Tryz.prog M 11 [.agg ((l.drop 4).take 9).toArray] (.int .i64 zf))
  (hown : CallOk Tryz.prog M 37 [.agg ((l.drop 4).take 9).toArray] (.int .i64 zf)) (hu : 0 ≤ u ∧ u ≤ 40) {pv : Value} (hpv : l[13]? = some pv) (hgon : CallOk Tryz.prog M 12 [pv] (.int .i64 u)) :
  tailS.wp Tryz.prog (bodyPost Tryz.prog Tryz.f3 (LawP w)) a w1 := by
 have vH : ∀ {z : Int} (E : Env),StatOk (baseB' M l z) E → VRL E [histB] [.agg (l.take 4).toArray] := fun E hE => VRL.cons ⟨_,(cellsB hl hE).take 4,rfl⟩ VRL.nil
 have vF : ∀ {z : Int} (E : Env),StatOk (baseB' M l z) E → VRL E [frameB] [.agg ((l.drop 4).take 9).toArray] := fun E hE => VRL.cons ⟨_,((cellsB hl hE).drop 4).take 9,rfl⟩ VRL.nil
 have vP : ∀ {z : Int} (E : Env),StatOk (baseB' M l z) E → VRL E [sy 13] [pv] := fun E hE => by
  refine VRL.cons ?_ VRL.nil
  show pv = E.sym 13
  rw [hE.sym,symB_c (by omega)]
  unfold oB
  rw [hpv]; rfl
 by_cases h0 : h = 0
 ·subst h0
  by_cases f0 : zf = 0
  ·subst f0
   by_cases u0 : u = 0
   ·subst u0
    exact tailB_run hg hl h1 (z := 1) ⟨by omega,by omega⟩ hon ts t7 hdf hb7 z7 hgr hfr q7 (memos_cons (hhist.contract (v := .int .i64 0) (Mem.Le.refl _) vH fun E hE => rfl) (memos_cons (hlaw.contract (v := .int .i64 0) (Mem.Le.refl _) vF fun E hE => rfl) (memos_cons (hown.contract (v := .int .i64 0) (Mem.Le.refl _) vF fun E hE => rfl) (memos_cons (hgon.contract (v := .int .i64 0) (Mem.Le.refl _) vP fun E hE => rfl) memos_nil)))) runB4
   ·exact tailB_run hg hl h1 (z := u) ⟨by omega,hu.2⟩ hon ts t7 hdf hb7 z7 hgr hfr q7 (memos_cons (hhist.contract (v := .int .i64 0) (Mem.Le.refl _) vH fun E hE => rfl) (memos_cons (hlaw.contract (v := .int .i64 0) (Mem.Le.refl _) vF fun E hE => rfl) (memos_cons (hown.contract (v := .int .i64 0) (Mem.Le.refl _) vF fun E hE => rfl) (memos_cons (hgon.contract (v := sy 14) (Mem.Le.refl _) vP fun E hE => vzB hE) memos_nil)))) runB3
  ·exact tailB_run hg hl h1 (z := zf) ⟨by omega,hzf.2⟩ hon ts t7 hdf hb7 z7 hgr hfr q7 (memos_cons (hhist.contract (v := .int .i64 0) (Mem.Le.refl _) vH fun E hE => rfl) (memos_cons (hlaw.contract (v := sy 14) (Mem.Le.refl _) vF fun E hE => vzB hE) (memos_cons (hown.contract (v := sy 14) (Mem.Le.refl _) vF fun E hE => vzB hE) memos_nil))) runB2
 ·exact tailB_run hg hl h1 (z := h) ⟨by omega,hh.2⟩ hon ts t7 hdf hb7 z7 hgr hfr q7 (memos_cons (hhist.contract (v := sy 14) (Mem.Le.refl _) vH fun E hE => vzB hE) memos_nil) runB1
end
end Go.Proofs.YtdkafeammgaknaaGreatDoor
