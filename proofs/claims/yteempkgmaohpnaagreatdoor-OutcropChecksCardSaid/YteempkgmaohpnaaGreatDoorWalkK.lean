/-
  klippelaw34.OutcropChecks: the way from its entry through a change of the history.
-/
import Derived.Test.YteempkgmaohpnaaGreatDoorChgE
import Derived.Test.YteempkgmaohpnaaGreatDoorDealR
import Derived.Test.YteempkgmaohpnaaGreatDoorEvMemo
import Derived.Test.YteempkgmaohpnaaGreatDoorMakeZ
import Derived.Test.YteempkgmaohpnaaGreatDoorTerr
set_option linter.unusedSectionVars false
set_option linter.unusedVariables false
set_option linter.unusedSimpArgs false
namespace Go.Proofs.YteempkgmaohpnaaGreatDoor
open Go.RowKit Go Ev Klp
def chartV : V := .agg [.sym 0,.sym 1,.sym 2,.sym 3,.sym 4]
def histV : V := .agg [.sym 0,.sym 1,.sym 2,.sym 3]
def meshV : V := .agg [.sym 0,.sym 1]
noncomputable def cxK : CX := ⟨T.ofList .e 0 [.opq 0,.opq 1,.opq 2,.opq 3,.opq 4,.int .i64 (P0 0)],T.ofList .e 0 [(0,40)],[(P0 0,⟨false,false,true⟩)],[],[]⟩
noncomputable def kitK5 (m : Memo) : Kit := ⟨cxK,[],[],.e,tmk m,.e,.e,⟨[],[],[]⟩⟩
def mH (v : V) : Nat × List (List V × V) := (9,[([histV],v)])
def mF (v : V) : Nat × List (List V × V) := (10,[([meshV,.sym 4],v)])
def mC : Nat × List (List V × V) := (11,[([chartV],.sym 5)])
def mA : Nat × List (List V × V) := (17,[([chartV],.tup [.nils,.sym 5])])
theorem runK1 : memoOk (kitK5 [mH (.sym 5)]).tab 10000 60 11 [chartV] (.sym 5) = true := by kernel_rfl
theorem runK2 : memoOk (kitK5 [mH (.int .i64 0),mF (.sym 5)]).tab 10000 60 11 [chartV] (.sym 5) = true := by kernel_rfl
theorem runK3 : memoOk (kitK5 [mC]).tab 10000 60 40 [chartV] (.tup [.nilm,.sym 5]) = true := by kernel_rfl
theorem runK4 : memoOk (kitK5 []).tab 10000 60 41 [.nils,.fn 42 [] []] (.tup []) = true := by kernel_rfl
theorem on_alloc {M : Mem} {w : World} (h : M.On w) (o : Obj) : M.On (w.alloc o) := by
 have e : (w.alloc o).heap = w.heap.push o := rfl
 refine ⟨?_,fun b hb hz => ?_⟩
 ·rw [e,Array.size_push]; exact Nat.le_succ_of_le h.size
 ·rw [e,Array.getElem?_push,if_neg (Nat.ne_of_lt (Nat.lt_of_lt_of_le hb h.size))]
  exact h.same b hb hz
theorem on_quiet {M : Mem} {w w' : World} (h : M.On w) (hg : Grew w w') (hs : ∀ b,b < w.heap.size → w'.heap[b]? = w.heap[b]?) : M.On w' :=
 ⟨Nat.le_trans h.size hg.size,fun b hb hz => (hs b (Nat.lt_of_lt_of_le hb h.size)).trans (h.same b hb hz)⟩
theorem range_nil (w : World) : (Instr.range 123 (.map none)).run Tryz.prog w = .ok (.pointer (some ⟨w.heap.size,0,none⟩)) (w.alloc (.mapIter none 0 #[] 0)) := by
 have hu := run_underlying (w := w) Tryz.underlying123
 unfold Instr.range
 simp [hu,Sem.run,newObj]
theorem next_nil (w : World) (r : Nat) (o : Option Nat) (t : Nat) (h : w.heap[r]? = some (.mapIter none 0 #[] 0)) : (Instr.next (.pointer (some ⟨r,0,o⟩)) false t).run Tryz.prog w = .ok (.tuple #[.bool false]) w := by
 unfold Instr.next
 simp [getObj,Sem.run,h]
set_option maxHeartbeats 1000000 in
set_option maxRecDepth 4000 in
theorem areas_walk {c0 c1 c2 c3 c4 : Value} {z : Int} {M : Mem} (ha : CallOk Tryz.prog M 40 [.agg #[c0,c1,c2,c3,c4]] (.tuple #[.map none,.int .i64 z]))
  (hs : CallOk Tryz.prog M 41 [.slice none 0 0,.func (.func 42) #[] #[]] (.tuple #[])) : CallOk Tryz.prog M 17 [.agg #[c0,c1,c2,c3,c4]] (.tuple #[.slice none 0 0,.int .i64 z]) := by
 intro w g1 g2
 have hon : M.On w := ⟨g1,g2⟩
 have HO := Lib.hid hon; clear hon g1 g2
 have HA := Lib.hid ha; clear ha
 have HS := Lib.hid hs; clear hs
 go_enter Tryz.func17,Tryz.ntmps17
 go_wp2_with fail
 have o1 := on_alloc HO.out (.cells #[c0,c1,c2,c3,c4] 48)
 refine (HA.out _ o1.size o1.same).mono ?_
 rintro e w1 ⟨rfl,hg1,hs1⟩
 have G1 := Lib.hid hg1; clear hg1
 have S1 := Lib.hid hs1; clear hs1
 have O1 := Lib.hid (on_quiet o1 G1.out S1.out)
 clear o1
 go_wp2_with fail
 rw [range_nil]
 simp only [Result.andThen_ok]
 have hit : (w1.alloc (.mapIter none 0 #[] 0)).heap[w1.heap.size]? = some (.mapIter none 0 #[] 0) := by
  rw [show (w1.alloc (.mapIter none 0 #[] 0)).heap = w1.heap.push _ from rfl,Array.getElem?_push,if_pos rfl]
 have nx := fun t => next_nil _ _ none t hit
 have IT := Lib.hid hit; clear hit
 have NX := Lib.hid nx; clear nx
 go_wp2_with fail
 refine wp_loop_rounds 1 ?_
 rw [rounds_succ]
 go_wp2_with fail
 rw [NX.out]
 simp only [Result.andThen_ok]
 go_wp2_with fail
 have o2 := on_alloc O1.out (.mapIter none 0 #[] 0)
 refine (HS.out _ o2.size o2.same).mono ?_
 clear o2
 rintro e w2 ⟨rfl,hg2,hs2⟩
 have G2 := Lib.hid hg2; clear hg2
 have S2 := Lib.hid hs2; clear hs2
 go_wp2_with fail
 go_ret2
 have ga : ∀ (w : World) (o : Obj),Grew w (w.alloc o) := fun w o => ⟨rfl,rfl,rfl,by rw [show (w.alloc o).heap = w.heap.push o from rfl,Array.size_push]; omega⟩
 have sa : ∀ (w : World) (o : Obj) (b : Nat),b < w.heap.size → (w.alloc o).heap[b]? = w.heap[b]? := fun w o b hb => by rw [show (w.alloc o).heap = w.heap.push o from rfl,Array.getElem?_push,if_neg (Nat.ne_of_lt hb)]
 have l1 := (ga w (.cells #[c0,c1,c2,c3,c4] 48)).size
 have l2 := G1.out.size
 have l3 := (ga w1 (.mapIter none 0 #[] 0)).size
 refine ⟨rfl,(((ga _ _).trans G1.out).trans (ga _ _)).trans G2.out,fun b hb => ?_⟩
 rw [S2.out b (by omega),sa _ _ b (by omega),S1.out b (by omega),sa _ _ b hb]
def oK (c : Nat → Value) (j : Nat) : Value := if j < 5 then c j else .nilFunc
def xK (z : Int) (v : Nat) : Int := if v = 0 then z else 0
noncomputable def baseK (M : Mem) (c : Nat → Value) (z : Int) : Base := { toMem := M,sym := symX (xK z) (oK c) cxK.tab }
section
variable {M : Mem} (hg : Good M) {c : Nat → Value} (hc : ∀ j,oneV (c j)) {z : Int} (hz : 0 < z ∧ z ≤ 40)
theorem symK_c {j : Nat} (hj : j < 5) : (baseK M c z).sym j = c j := by
 have e : cxK.tab.get j = some (.opq j) := by
  have : j = 0 ∨ j = 1 ∨ j = 2 ∨ j = 3 ∨ j = 4 := by omega
  rcases this with rfl | rfl | rfl | rfl | rfl <;> rfl
 show symX (xK z) (oK c) cxK.tab j = c j
 unfold symX
 rw [e]
 exact if_pos hj
theorem symK_z : (baseK M c z).sym 5 = .int .i64 z := by
 have e : cxK.tab.get 5 = some (.int .i64 (P0 0)) := rfl
 show symX (xK z) (oK c) cxK.tab 5 = _
 unfold symX
 rw [e]
 simp only [ev_P0]; rfl
include hc in
theorem oneK (i : Nat) : oneV ((baseK M c z).sym i) := symX_one (fun j => by unfold oK; split; exact hc j; trivial) i
include hg hc hz in
theorem kitK5_ok {m : Memo} (hm : Memos Tryz.prog (baseK M c z) m) : KitOk (baseK M c z) (xK z) (oK c) (kitK5 m) := by
 refine ⟨⟨fun _ _ _ => rfl,fun v => ?_,fact_cons ?_ (fact_nil _),(fun r hr => by cases hr),(fun p hp => by cases hp),(fun j => by unfold oK; split; exact hc j; trivial),hg.pow _ _,hg.tabs⟩,fun f args v hv => tmk_prim hm hv,(fun f es he => by simp [kitK5,T.get_e] at he),
  (fun n cs hn => by simp [kitK5,T.get_e] at hn),(fun p hp => by cases hp),(fun p hp => by cases hp),(fun p hp => by cases hp)⟩
 ·show Iv.has (((T.ofList .e 0 [(0,40)] : T Iv).get v).getD (0,0)) (xK z v)
  rw [T.get_ofList]
  by_cases hv : v = 0
  ·subst hv
   exact ⟨Int.le_of_lt hz.1,hz.2⟩
  ·rw [if_neg (by simp; omega),T.get_e]
   show Iv.has (0,0) (if v = 0 then z else 0)
   rw [if_neg hv]
   exact ⟨Int.le_refl _,Int.le_refl _⟩
 ·rw [ev_P0]
  exact ⟨fun e => by have : xK z 0 = z := rfl; omega,fun e => by have : xK z 0 = z := rfl; omega,fun _ => rfl⟩
theorem vK {E : Env} (hE : StatOk (baseK M c z) E) : VRL E [.sym 0,.sym 1,.sym 2,.sym 3,.sym 4] [c 0,c 1,c 2,c 3,c 4] := by
 have h : ∀ j,j < 5 → VR E (.sym j) (c j) := fun j hj => by show c j = E.sym j; rw [hE.sym,symK_c hj]
 exact VRL.cons (h 0 (by omega)) (VRL.cons (h 1 (by omega)) (VRL.cons (h 2 (by omega)) (VRL.cons (h 3 (by omega)) (VRL.cons (h 4 (by omega)) VRL.nil))))
theorem vChart {E : Env} (hE : StatOk (baseK M c z) E) : VRL E [chartV] [.agg #[c 0,c 1,c 2,c 3,c 4]] := VRL.cons ⟨_,vK hE,rfl⟩ VRL.nil
theorem vHist {E : Env} (hE : StatOk (baseK M c z) E) : VRL E [histV] [.agg #[c 0,c 1,c 2,c 3]] := VRL.cons ⟨_,(vK hE).take 4,rfl⟩ VRL.nil
theorem vField {E : Env} (hE : StatOk (baseK M c z) E) : VRL E [meshV,.sym 4] [.agg #[c 0,c 1],c 4] := VRL.cons ⟨_,(vK hE).take 2,rfl⟩ ((vK hE).drop 4)
theorem vZ {E : Env} (hE : StatOk (baseK M c z) E) : VR E (.sym 5) (.int .i64 z) := by show _ = E.sym 5; rw [hE.sym,symK_z]
theorem memos_nil {P : Program} {w0 : Base} : Memos P w0 [] := fun _ h => by cases h
theorem memos_cons {P : Program} {w0 : Base} {f : Nat} {a : List V} {v : V} {l : Memo} (h : Contract P w0 f a v) (hl : Memos P w0 l) : Memos P w0 ((f,[(a,v)]) :: l) := fun q hq p hp => by
 rcases List.mem_cons.1 hq with rfl | hq
 ·rw [List.mem_singleton.1 hp]; exact h
 ·exact hl q hq p hp
theorem mH_z (h : CallOk Tryz.prog M 9 [.agg #[c 0,c 1,c 2,c 3]] (.int .i64 z)) : Contract Tryz.prog (baseK M c z) 9 [histV] (.sym 5) := h.contract (Mem.Le.refl _) (fun E hE => vHist hE) (fun E hE => vZ hE)
theorem mH_0 (h : CallOk Tryz.prog M 9 [.agg #[c 0,c 1,c 2,c 3]] (.int .i64 0)) : Contract Tryz.prog (baseK M c z) 9 [histV] (.int .i64 0) := h.contract (Mem.Le.refl _) (fun E hE => vHist hE) (fun E hE => rfl)
theorem mF_z (h : CallOk Tryz.prog M 10 [.agg #[c 0,c 1],c 4] (.int .i64 z)) : Contract Tryz.prog (baseK M c z) 10 [meshV,.sym 4] (.sym 5) := h.contract (Mem.Le.refl _) (fun E hE => vField hE) (fun E hE => vZ hE)
theorem mF_0 (h : CallOk Tryz.prog M 10 [.agg #[c 0,c 1],c 4] (.int .i64 0)) : Contract Tryz.prog (baseK M c z) 10 [meshV,.sym 4] (.int .i64 0) := h.contract (Mem.Le.refl _) (fun E hE => vField hE) (fun E hE => rfl)
section
include hg hc hz
theorem check_bad {m : Memo} (hm : Memos Tryz.prog (baseK M c z) m) (hrun : memoOk (kitK5 m).tab 10000 60 11 [chartV] (.sym 5) = true) : CallOk Tryz.prog M 11 [.agg #[c 0,c 1,c 2,c 3,c 4]] (.int .i64 z) :=
 (Kit.run (kitK5_ok hg hc hz hm) (show (kitK5 m).chk = true from rfl) hrun).callOk (hE := base_stat (h := oneK hc)) (vChart base_stat) (vZ base_stat)
theorem areas_bad (h : CallOk Tryz.prog M 11 [.agg #[c 0,c 1,c 2,c 3,c 4]] (.int .i64 z)) : CallOk Tryz.prog M 17 [.agg #[c 0,c 1,c 2,c 3,c 4]] (.tuple #[.slice none 0 0,.int .i64 z]) := by
 have hC : Contract Tryz.prog (baseK M c z) 11 [chartV] (.sym 5) := h.contract (Mem.Le.refl _) (fun E hE => vChart hE) (fun E hE => vZ hE)
 refine areas_walk ?_ ?_
 ·exact (Kit.run (kitK5_ok hg hc hz (memos_cons hC memos_nil)) (show (kitK5 [mC]).chk = true from rfl) runK3).callOk (hE := base_stat (h := oneK hc)) (vChart base_stat) ⟨_,VRL.cons rfl (VRL.cons (vZ base_stat) VRL.nil),rfl⟩
 ·exact (Kit.run (kitK5_ok hg hc hz memos_nil) (show (kitK5 []).chk = true from rfl) runK4).callOk (hE := base_stat (h := oneK hc)) (VRL.cons rfl (VRL.cons ⟨_,_,VRL.nil,VRL.nil,rfl⟩ VRL.nil)) ⟨_,VRL.nil,rfl⟩
theorem mA_z (h : CallOk Tryz.prog M 11 [.agg #[c 0,c 1,c 2,c 3,c 4]] (.int .i64 z)) : Contract Tryz.prog (baseK M c z) 17 [chartV] (.tup [.nils,.sym 5]) :=
 (areas_bad hg hc hz h).contract (Mem.Le.refl _) (fun E hE => vChart hE) (fun E hE => ⟨_,VRL.cons rfl (VRL.cons (vZ hE) VRL.nil),rfl⟩)
end
end
end Go.Proofs.YteempkgmaohpnaaGreatDoor
namespace Go.Proofs.YteempkgmaohpnaaGreatDoor
open Go.RowKit Go Ev Klp
def bdFL : List Iv := [(0,0),(0,0),(0,0),(0,0),(0,0),(-38,38),(-38,38),(-38,38),(-38,38),(-38,38),(-38,38)]
noncomputable def cxF (np : Nat) (ls : List (Nat × Nat)) : CX := ⟨T.ofList .e 0 ([.opq 0,.opq 1,.opq 2] ++ (List.range np).map fun i => .num ⟨[([5 + i],1)],2⟩),T.ofList .e 0 bdFL,[],[],ls⟩
noncomputable def rowsF (np : Nat) : Rows := (T.e).set 69 (.n .e (some ((List.range np).map fun i => ([.sym (3 + i)],.int .i64 0))) .e)
def cellsF (np : Nat) : List V := (List.range np).map fun i => .sym (3 + i)
noncomputable def kitF (np : Nat) (ls : List (Nat × Nat)) (gl : List (Nat × List V)) : Kit := ⟨cxF np ls,[],[],rowsF np,tmk [(29,[([.agg [.sym 0,.sym 1]],.int .i64 0)])],.e,tmk gl,⟨[],[],[]⟩⟩
noncomputable def runF (np : Nat) (ls : List (Nat × Nat)) (gl : List (Nat × List V)) (tv : V) (z : Int) : Bool := (kitF np ls gl).chk && memoOk (kitF np ls gl).tab 10000 60 10 [.agg [.sym 0,.sym 1],tv] (.int .i64 z)
def badB : List UInt8 := [50,47,50]
noncomputable def runF0 (np : Nat) : Bool := runF np [(0,np)] [(34,cellsF np)] (.slice 34 0 np (2 * np + 1)) 0
noncomputable def runF1 (np k : Nat) : Bool := runF np [(0,np)] [(34,(cellsF np).set k (.str badB))] (.slice 34 0 np (2 * np + 1)) 2
noncomputable def runF2 (np : Nat) : Bool := runF np [(0,np),(2,np - 1)] [] (.sym 2) 5
theorem runF0_all : ([3,4,5,6].all runF0) = true := by kernel_rfl
theorem runF1_all : ([3,4,5,6].all fun np => (List.range np).all (runF1 np)) = true := by kernel_rfl
theorem runF2_all : ([3,4,5,6].all runF2) = true := by kernel_rfl
def TextsRaw (M : Mem) (l : List Value) (tv : Value) : Prop := ∃ b c rc t fr rest,tv = slV b l.length c ∧ l.length ≤ c ∧ M.frz b ∧ M.heap[b]? = some (.cells rc t fr) ∧ rc.toList = l ++ rest
def xF (z : Nat → Int) (v : Nat) : Int := (([0,0,0,0,0,z 0,z 1,z 2,z 3,z 4,z 5] : List Int)[v]?).getD 0
def oF (m0 m1 tv : Value) (j : Nat) : Value := if j = 0 then m0 else if j = 1 then m1 else if j = 2 then tv else .nilFunc
noncomputable def baseF (M : Mem) (np : Nat) (z : Nat → Int) (m0 m1 tv : Value) (i : Info) : Base := { toMem := M,sym := symX (xF z) (oF m0 m1 tv) (cxF np []).tab,stat := fun _ => i }
def htsF (np : Nat) : List Num := (List.range np).map fun i => ⟨[([5 + i],1)],2⟩
theorem htsF_val (z : Nat → Int) (np : Nat) (hn : np ≤ 6) : (htsF np).map (fun e => strV (canon (e.val (xF z)))) = htsR np z := by
 simp only [htsF,htsR,List.map_map]
 refine List.map_congr_left fun i hi => ?_
 have hi := List.mem_range.1 hi
 simp only [Function.comp]
 unfold Num.val
 have e : Poly.ev (xF z) [([5 + i],1)] = z i := by
  have : xF z (5 + i) = z i := by
   have : i = 0 ∨ i = 1 ∨ i = 2 ∨ i = 3 ∨ i = 4 ∨ i = 5 := by omega
   rcases this with rfl | rfl | rfl | rfl | rfl | rfl <;> rfl
  simp only [Poly.ev,Poly.evM,this,Int.mul_one,Int.one_mul,Int.add_zero]
 rw [e]; rfl
theorem numsF_all : ([3,4,5,6].all fun np => numsEq (cxF np []) (htsF np) (cellsF np)) = true := by kernel_rfl
section
variable {M : Mem} (hg : Good M) {np : Nat} (hn : np ∈ [3,4,5,6]) {z : Nat → Int} (hz : ∀ i,i < 6 → -38 ≤ z i ∧ z i ≤ 38) {m0 m1 tv : Value} (hm0 : ∃ a k,m0 = Value.slice a np k) (hm1 : oneV m1) (htv : oneV tv) {i34 : Info}
include hg hn hz hm0 hm1 htv
theorem oneF (j : Nat) : oneV (oF m0 m1 tv j) := by
 unfold oF
 split
 ·obtain ⟨_,_,rfl⟩ := hm0; trivial
 ·split
  ·exact hm1
  ·split
   ·exact htv
   ·trivial
theorem symF {j : Nat} (hj : j < 3) : (baseF M np z m0 m1 tv i34).sym j = oF m0 m1 tv j := by
 have e : (cxF np []).tab.get j = some (.opq j) := by
  show (T.ofList .e 0 _).get j = _
  rw [T.get_ofList,if_pos ⟨Nat.zero_le _,by simp; omega⟩]
  have : j = 0 ∨ j = 1 ∨ j = 2 := by omega
  rcases this with rfl | rfl | rfl <;> rfl
 show symX (xF z) (oF m0 m1 tv) (cxF np []).tab j = _
 unfold symX
 rw [e]
theorem cxF_ok {ls : List (Nat × Nat)} (hls : ∀ p ∈ ls,∃ a k,(baseF M np z m0 m1 tv i34).sym p.1 = .slice a p.2 k) : CXOk (baseF M np z m0 m1 tv i34) (xF z) (oF m0 m1 tv) (cxF np ls) := by
 refine ⟨fun _ _ _ => rfl,fun v => ?_,(fun f hf => by cases hf),(fun r hr => by cases hr),hls,oneF hg hn hz hm0 hm1 htv,hg.pow _ _,hg.tabs⟩
 show Iv.has (((T.ofList .e 0 bdFL).get v).getD (0,0)) _
 exact bd_of (l := bdFL) (zs := [0,0,0,0,0,z 0,z 1,z 2,z 3,z 4,z 5]) ⟨⟨Int.le_refl _,Int.le_refl _⟩,⟨Int.le_refl _,Int.le_refl _⟩,⟨Int.le_refl _,Int.le_refl _⟩,⟨Int.le_refl _,Int.le_refl _⟩,⟨Int.le_refl _,Int.le_refl _⟩,hz 0 (by omega),hz 1 (by omega),hz 2 (by omega),hz 3 (by omega),hz 4 (by omega),hz 5 (by omega),trivial⟩ v
theorem field_run (hm : CallOk Tryz.prog M 29 [.agg #[m0,m1]] (.int .i64 0)) {ls : List (Nat × Nat)} (hls : ∀ p ∈ ls,∃ a k,(baseF M np z m0 m1 tv i34).sym p.1 = .slice a p.2 k) {gl : List (Nat × List V)} (hgl : ∀ n cs,(n,cs) ∈ gl → Lies (baseF M np z m0 m1 tv i34) n cs)
  {tvV : V} (hv : ∀ E,StatOk (baseF M np z m0 m1 tv i34) E → VR E tvV tv) {u : Int} (hrun : runF np ls gl tvV u = true) : CallOk Tryz.prog M 10 [.agg #[m0,m1],tv] (.int .i64 u) := by
 simp only [runF,Bool.and_eq_true] at hrun
 obtain ⟨hchk,hrun⟩ := hrun
 have hC := cxF_ok hg hn hz hm0 hm1 htv (i34 := i34) hls
 have hone : ∀ i,oneV ((baseF M np z m0 m1 tv i34).sym i) := fun i => symX_one (oneF hg hn hz hm0 hm1 htv) i
 have vM : ∀ E,StatOk (baseF M np z m0 m1 tv i34) E → VR E (.agg [.sym 0,.sym 1]) (.agg #[m0,m1]) := fun E hE => by
  refine ⟨[m0,m1],VRL.cons ?_ (VRL.cons ?_ VRL.nil),rfl⟩
  ·show m0 = E.sym 0
   rw [hE.sym,symF hg hn hz hm0 hm1 htv (by omega)]; rfl
  ·show m1 = E.sym 1
   rw [hE.sym,symF hg hn hz hm0 hm1 htv (by omega)]; rfl
 have hK : KitOk (baseF M np z m0 m1 tv i34) (xF z) (oF m0 m1 tv) (kitF np ls gl) := by
  refine ⟨hC,fun f args v hv => tmk_prim (l := [(29,[([.agg [.sym 0,.sym 1]],.int .i64 0)])]) ?_ hv,(fun f es he => by simp [kitF,T.get_e] at he),(fun n cs hn => hgl n cs (tmk_mem hn)),(fun p hp => by cases hp),(fun p hp => by cases hp),(fun p hp => by cases hp)⟩
  exact memos_cons (hm.contract (Mem.Le.refl _) (fun E hE => VRL.cons (vM E hE) VRL.nil) (fun E hE => rfl)) memos_nil
 exact (Kit.run hK hchk hrun).callOk (hE := base_stat (h := hone)) (VRL.cons (vM _ base_stat) (VRL.cons (hv _ base_stat) VRL.nil)) rfl
theorem cells_F {E : Env} (hE : StatOk (baseF M np z m0 m1 tv i34) E) : VRL E (cellsF np) (htsR np z) := by
 have hC := cxF_ok hg hn hz hm0 hm1 htv (i34 := i34) (ls := []) (fun p hp => by cases hp)
 have h6 : np ≤ 6 := by simp only [List.mem_cons,List.not_mem_nil,or_false] at hn; omega
 have := numsEq_ok hC hE (List.all_eq_true.1 numsF_all np hn)
 rwa [htsF_val z np h6] at this
theorem len_F : ∀ p ∈ [(0,np)],∃ a k,(baseF M np z m0 m1 tv i34).sym p.1 = .slice a p.2 k := fun p hp => by
 obtain ⟨a,k,e⟩ := hm0
 rw [List.mem_singleton.1 hp]
 exact ⟨a,k,by rw [symF hg hn hz ⟨a,k,e⟩ hm1 htv (by omega)]; exact e⟩
end
section
variable {M : Mem} (hg : Good M) {np : Nat} (hn : np ∈ [3,4,5,6]) {z : Nat → Int} (hz : ∀ i,i < 6 → -38 ≤ z i ∧ z i ≤ 38) {m0 m1 tv : Value} (hm0 : ∃ a k,m0 = Value.slice a np k) (hm1 : oneV m1) (hm : CallOk Tryz.prog M 29 [.agg #[m0,m1]] (.int .i64 0))
include hg hn hz hm0 hm1 hm
theorem field_texts {l : List Value} (hl : l.length = np) {cs : List V} (ht : TextsRaw M l tv) (hcs : ∀ E i,StatOk (baseF M np z m0 m1 tv i) E → VRL E cs l) {u : Int} (hrun : runF np [(0,np)] [(34,cs)] (.slice 34 0 np (2 * np + 1)) u = true) : CallOk Tryz.prog M 10 [.agg #[m0,m1],tv] (.int .i64 u) := by
 obtain ⟨b,c,rc,t,fr,rest,rfl,h2,hf,h3,h4⟩ := ht
 rw [hl] at h2
 refine field_run hg hn hz hm0 hm1 (show oneV (slV _ _ _) from trivial) (i34 := { blk := b,size := c,unit := 1 }) hm (len_F hg hn hz hm0 hm1 (show oneV (slV _ _ _) from trivial)) (gl := [(34,cs)]) (fun n ds hm => ?_) (tvV := .slice 34 0 np (2 * np + 1)) (fun E hE => ⟨_,hE.stat 34 (by omega) (by omega),?_⟩) hrun
 ·cases List.mem_singleton.1 hm
  exact ⟨by omega,by omega,(Array.getElem?_eq_some_iff.1 h3).1,hf,rc,t,fr,h3,fun E hE => ⟨_,rest,hcs E _ hE,h4⟩⟩
 ·rw [hl]
  show slV b np c = .slice (some ⟨b,0,none⟩) np (capOf { blk := b,size := c,unit := 1 } 0 (2 * np + 1))
  unfold capOf slV
  rw [if_neg (by omega)]
  simp only [Nat.sub_zero,Nat.div_one]
  congr 1
  omega
theorem field_0 (ht : TextsRaw M (htsR np z) tv) : CallOk Tryz.prog M 10 [.agg #[m0,m1],tv] (.int .i64 0) := by
 have htv : oneV tv := by obtain ⟨_,_,_,_,_,_,rfl,_⟩ := ht; trivial
 exact field_texts hg hn hz hm0 hm1 hm (by simp [htsR]) ht (fun E i hE => cells_F hg hn hz hm0 hm1 htv hE) (List.all_eq_true.1 runF0_all np hn)
theorem field_1 {k : Nat} (hk : k < np) (ht : TextsRaw M ((htsR np z).set k (strB badB)) tv) : CallOk Tryz.prog M 10 [.agg #[m0,m1],tv] (.int .i64 2) := by
 have htv : oneV tv := by obtain ⟨_,_,_,_,_,_,rfl,_⟩ := ht; trivial
 exact field_texts hg hn hz hm0 hm1 hm (by simp [htsR]) ht (fun E i hE => VRL.setG k (cells_F hg hn hz hm0 hm1 htv hE) (show VR E (.str badB) (strB badB) from rfl)) (List.all_eq_true.1 (List.all_eq_true.1 runF1_all np hn) k (List.mem_range.2 hk))
theorem field_2 (ht : ∃ a k,tv = Value.slice a (np - 1) k) : CallOk Tryz.prog M 10 [.agg #[m0,m1],tv] (.int .i64 5) := by
 have htv : oneV tv := by obtain ⟨_,_,rfl⟩ := ht; trivial
 refine field_run hg hn hz hm0 hm1 htv (i34 := { blk := 0,size := 0,unit := 0 }) hm (ls := [(0,np),(2,np - 1)]) (fun p hp => ?_) (gl := []) (fun n ds hm => by cases hm) (tvV := .sym 2) (fun E hE => ?_) (List.all_eq_true.1 runF2_all np hn)
 ·rcases List.mem_cons.1 hp with rfl | hp
  ·exact len_F hg hn hz hm0 hm1 htv _ (List.mem_singleton.2 rfl)
  ·rw [List.mem_singleton.1 hp]
   obtain ⟨a,k,e⟩ := ht
   exact ⟨a,k,by rw [symF hg hn hz hm0 hm1 htv (by omega)]; exact e⟩
 ·show tv = E.sym 2
  rw [hE.sym,symF hg hn hz hm0 hm1 htv (by omega)]; rfl
end
end Go.Proofs.YteempkgmaohpnaaGreatDoor
namespace Go.Proofs.YteempkgmaohpnaaGreatDoor
open Go.RowKit Go Ev Klp
noncomputable def restK : Code := sq2 (sq2 (sq2 (bodyOf Tryz.f3)))
noncomputable def rest12 : Code := sq2 (sq2 restK)
def chartCs : List V := [.sym 0,.sym 1,.sym 2,.sym 3,.sym 4]
noncomputable def sT5 : S := { t := T.e.set 7 (.ptr 64 0),h := boxH 64 [(chartCs,48)],nx := 65,m := [] }
noncomputable def runT5 (m : Memo) : Bool := match tailRun (kitK5 m).tab 10000 60 Tryz.f3 rest12 sT5 with
 | some rs => rs.all fun r => V.eq r.1 (.bool true)
 | none => false
set_option maxRecDepth 100000 in
theorem runT1 : runT5 [mH (.sym 5),mA] = true := by kernel_rfl
set_option maxRecDepth 100000 in
theorem runT2 : runT5 [mH (.int .i64 0),mF (.sym 5),mA] = true := by kernel_rfl
set_option maxRecDepth 100000 in
theorem runT3 : runT5 [mH (.int .i64 0),mF (.int .i64 0)] = true := by kernel_rfl
theorem rest12_dst : dstOk 201 rest12 = true := by kernel_rfl
def LawP (w : World) (e : Ending) (w' : World) : Prop := e = .returned (.bool true) ∧ Grew w w' ∧ ∀ b,b < w.heap.size → w'.heap[b]? = w.heap[b]?
section
variable {M : Mem} (hg : Good M) {c : Nat → Value} (hc : ∀ j,oneV (c j))
 {w w1 : World} {a : Act} {p1 : Nat} (hon : M.On w1) (ts : a.tmps.size = 201) (t7 : a.tmps[7]? = some (.pointer (some ⟨p1,0,none⟩))) (hdf : a.defers = [])
 (hp : w1.heap[p1]? = some (.cells #[c 0,c 1,c 2,c 3,c 4] 48 (0,0)))
 (z1 : ¬ (p1 < M.heap.size ∧ M.frz p1)) (hgr : Grew w w1) (hfr : ∀ b,b < w.heap.size → w1.heap[b]? = w.heap[b]?) (q1 : w.heap.size ≤ p1)
include hg hc hon ts t7 hdf hp z1 hgr hfr q1
theorem tail_run {z : Int} (hz : 0 < z ∧ z ≤ 40) {m : Memo} (hm : Memos Tryz.prog (baseK M c z) m) (hrun : runT5 m = true) : rest12.wp Tryz.prog (bodyPost Tryz.prog Tryz.f3 (LawP w)) a w1 := by
 have hK := kitK5_ok hg hc hz hm
 let bs : List Box := [⟨p1,chartCs,[c 0,c 1,c 2,c 3,c 4],48⟩]
 have hbs : BoxesOk (baseK M c z) w1 bs := by
  refine ⟨hon,fun b hb => ?_,fun b hb E hE => ?_,fun i j x y hi hj he => ?_,fun b hb => ?_⟩
  ·rw [List.mem_singleton.1 hb]; exact hp
  ·rw [List.mem_singleton.1 hb]
   exact vK hE
  ·match i,j,hi,hj with
   | 0,0,_,_ => rfl
   | n + 1,_,hi,_ => simp [bs] at hi
   | 0,n + 1,_,hj => simp [bs] at hj
  ·rw [List.mem_singleton.1 hb]; exact z1
 have hok := boxes_ok (h := oneK hc) hbs
 have hfoot : ∀ b,Foot (boxE (baseK M c z) (oneK hc) bs) sT5.h.get b → b = p1 := by
  intro b hf
  obtain ⟨x,hx,rfl⟩ := boxes_foot (l := bs) hf
  rw [List.mem_singleton.1 hx]
 have htr : TR (boxE (baseK M c z) (oneK hc) bs) sT5.t a.tmps := by
  intro k v hk
  have hk : ((T.e : T V).set 7 (.ptr 64 0)).get k = some v := hk
  rw [T.get_set] at hk
  by_cases c7 : k = 7
  ·rw [if_pos c7] at hk; cases hk; subst c7; exact ⟨_,t7,_,boxE_at (j := 0) rfl,rfl⟩
  ·rw [if_neg c7,T.get_e] at hk; cases hk
 unfold runT5 at hrun
 split at hrun
 ·rename_i rs hrs
  refine tail_wp (kitK5 m).tabOk ((kitK5 m).fnOk hK rfl) hrs hok htr rfl hdf (by rw [ts]; exact rest12_dst) fun r hr x E' w' hx hst => ?_
  have hro := V.eq_eq _ _ (List.all_eq_true.1 hrun r hr)
  rw [hro] at hx
  refine ⟨by rw [show x = .bool true from hx],hgr.trans hst.grew,fun b hb => ?_⟩
  rw [hst.frame b (Nat.lt_of_lt_of_le hb hgr.size) (fun hf => by have := hfoot b hf; omega),hfr b hb]
 ·cases hrun
theorem checks_tail {h : Int} (hh : 0 ≤ h ∧ h ≤ 40) (hhist : CallOk Tryz.prog M 9 [.agg #[c 0,c 1,c 2,c 3]] (.int .i64 h)) (hfield : h = 0 → ∃ f : Int,(0 ≤ f ∧ f ≤ 40) ∧ CallOk Tryz.prog M 10 [.agg #[c 0,c 1],c 4] (.int .i64 f)) :
  rest12.wp Tryz.prog (bodyPost Tryz.prog Tryz.f3 (LawP w)) a w1 := by
 by_cases h0 : h = 0
 ·subst h0
  obtain ⟨f,hf,hF⟩ := hfield rfl
  by_cases f0 : f = 0
  ·subst f0
   exact tail_run hg hc hon ts t7 hdf hp z1 hgr hfr q1 (z := 1) ⟨by omega,by omega⟩ (memos_cons (mH_0 hhist) (memos_cons (mF_0 hF) memos_nil)) runT3
  ·have hz : 0 < f ∧ f ≤ 40 := ⟨by omega,hf.2⟩
   have hck := check_bad hg hc hz (memos_cons (mH_0 hhist) (memos_cons (mF_z hF) memos_nil)) runK2
   exact tail_run hg hc hon ts t7 hdf hp z1 hgr hfr q1 hz (memos_cons (mH_0 hhist) (memos_cons (mF_z hF) (memos_cons (mA_z hg hc hz hck) memos_nil))) runT2
 ·have hz : 0 < h ∧ h ≤ 40 := ⟨by omega,hh.2⟩
  have hck := check_bad hg hc hz (memos_cons (mH_z hhist) memos_nil) runK1
  exact tail_run hg hc hon ts t7 hdf hp z1 hgr hfr q1 hz (memos_cons (mH_z hhist) (memos_cons (mA_z hg hc hz hck) memos_nil)) runT1
end
end Go.Proofs.YteempkgmaohpnaaGreatDoor
namespace Go.Proofs.YteempkgmaohpnaaGreatDoor
open Go.RowKit Go Ev Klp
noncomputable def cloneK : Code := sq1 restK
noncomputable def blkK : Code := sq1 (sq2 restK)
def bdPL : List Iv := [(0,255),(0,255),(0,0),(0,0),(0,0),(-38,38),(-38,38),(-38,38),(-38,38),(-38,38),(-38,38)]
noncomputable def cxP (np : Nat) (rems : List (Poly × Nat × Poly)) : CX :=
 ⟨T.ofList .e 0 ([.int .u8 (P0 0),.int .u8 (P0 1),.int .i64 (P0 1),.opq 0,.opq 1,.opq 2,.opq 3,.opq 4] ++ (List.range np).map fun i => .num ⟨[([5 + i],1)],2⟩),T.ofList .e 0 bdPL,[],rems,[]⟩
def cellsP (np : Nat) : List V := (List.range np).map fun i => .sym (8 + i)
noncomputable def kitP (np : Nat) (rems : List (Poly × Nat × Poly)) (bins : List BinRow) : Kit := ⟨cxP np rems,bins,[⟨1,.i64,.sym 2⟩],.e,.e,.e,tmk [(34,cellsP np)],⟨[],[],[]⟩⟩
def chartP (np : Nat) : List V := [.sym 3,.sym 4,.sym 5,.sym 6,.slice 34 0 np (2 * np + 1)]
noncomputable def sP (np : Nat) : S := { t := ((T.e.set 2 (.sym 0)).set 4 (.ptr 65 0)).set 7 (.ptr 64 0),h := boxH 64 [(chartP np,48),([.sym 7,.sym 1],35)],nx := 66,m := [] }
noncomputable def outOk (off n : Nat) (ex : List V) (o : Out) : Bool := (match o.1 with | .normal => true | _ => false) && o.2.m.isEmpty && (match o.2.t.get 7 with | some v => V.eq v (.ptr 64 0) | none => false) && (match o.2.t.get 4 with | some v => V.eq v (.ptr 65 0) | none => false) && (match o.2.t.get 2 with | some v => V.eq v (.sym 0) | none => false) &&
 (match o.2.h.get 65 with | some (.cells cs ty 0 false) => Nat.beq ty 35 && V.eqL cs [.sym 7,.sym 1] | _ => false) &&
 (match o.2.h.get 64 with
  | some (.cells [a,b,c,d,.slice ne f k cap] ty 0 false) => Nat.beq ty 48 && V.eqL [a,b,c,d] [.sym 3,.sym 4,.sym 5,.sym 6] && Nat.beq f off && Nat.beq k n && Nat.ble k (cap / 2) && Nat.ble 66 ne && (match o.2.h.get ne with
   | some (.cells cs _ _ _) => V.eqL (cs.take ex.length) ex
   | _ => false)
  | _ => false)
noncomputable def runPP (np : Nat) (rems : List (Poly × Nat × Poly)) (bins : List BinRow) (off n : Nat) (ex : List V) : Bool := (kitP np rems bins).chk && (match code { tb := (kitP np rems bins).tab,rc := recN (kitP np rems bins).tab 10000 60,inRound := none,rounds := 10000 } cloneK (sP np) with
 | some outs => outs.all fun o => (match o.1 with | .normal => true | _ => false) && o.2.m.isEmpty && (match code { tb := (kitP np rems bins).tab,rc := recN (kitP np rems bins).tab 10000 60,inRound := none,rounds := 10000 } blkK o.2 with
  | some outs2 => outs2.all (outOk off n ex)
  | none => false)
 | none => false)
def rmH (j : Nat) : List (Poly × Nat × Poly) := [(P0 0,4,[([],Int.ofNat j)])]
def rowH (j : Nat) : List BinRow := [⟨.rem,.sym 0,.int .u8 4,.int .u8 (Int.ofNat j)⟩]
noncomputable def runP1 (np k : Nat) : Bool := runPP np (rmH 1 ++ [(P0 1,np,[([],Int.ofNat k)])]) (rowH 1 ++ [⟨.rem,.sym 2,.int .i64 (Int.ofNat np),.int .i64 (Int.ofNat k)⟩]) 0 np ((cellsP np).set k (.str badB))
noncomputable def runP2 (np : Nat) : Bool := runPP np (rmH 2) (rowH 2) 1 (np - 1) (cellsP np)
noncomputable def runP3 (np : Nat) : Bool := runPP np (rmH 3) (rowH 3) 0 np (cellsP np)
set_option maxRecDepth 100000
theorem runP1_all : ([3,4,5,6].all fun np => (List.range np).all (runP1 np)) = true := by kernel_rfl
theorem runP2_all : ([3,4,5,6].all runP2) = true := by kernel_rfl
theorem runP3_all : ([3,4,5,6].all runP3) = true := by kernel_rfl
theorem cloneK_dst : dstOk 201 cloneK = true := by kernel_rfl
theorem blkK_dst : dstOk 201 blkK = true := by kernel_rfl
end Go.Proofs.YteempkgmaohpnaaGreatDoor
namespace Go.Proofs.YteempkgmaohpnaaGreatDoor
open Go.RowKit Go Ev Klp
theorem pre_wp {tb : Tab} {P : Program} {w0 : Base} (hT : TabOk tb P) (hF : FnOk tb P w0) {rounds n : Nat} {c : Code} {s : S} {outs : List Out} (h : code { tb := tb,rc := recN tb rounds n,inRound := none,rounds := rounds } c s = some outs)
  {E : Env} {a : Act} {w : World} (ho : Ok w0 E s.h.get s.nx w) (ht : TR E s.t a.tmps) (hm : s.m = []) (hd : a.defers = []) (hdst : dstOk a.tmps.size c = true) {QQ : Exit → Act → World → Prop}
  (hQ : ∀ o ∈ outs,∀ (a1 : Act) (w1 : World) (E1 : Env),At E s.h.get s.nx w a.tmps.size E1 o.2 a1 w1 → QQ (XE o.1) a1 w1) : c.wp P QQ a w := by
 refine (wpIn_wide (n := 0)).1 ?_
 have hfr : FR none = Fence.wide := rfl
 rw [← hfr]
 refine wpIn_mono (code_ok (cx := { tb := tb,rc := recN tb rounds n,inRound := none,rounds := rounds }) (r := none) hT hF (recN_ok hT hF (rounds := rounds) n) rfl rfl (N := a.tmps.size) c rfl h ho ht (by rw [hm,hd]; rfl) rfl hdst) ?_
 rintro e a1 w1 ⟨o,hmem,rfl,E1,hat⟩
 exact hQ o hmem a1 w1 E1 hat
def TextsAt (M : Mem) (off n : Nat) (l : List Value) (tv : Value) : Prop := ∃ b c rc t fr rest,tv = .slice (some ⟨b,off,none⟩) n c ∧ n ≤ c ∧ M.frz b ∧ M.heap[b]? = some (.cells rc t fr) ∧ rc.toList = l ++ rest
def xP (how at_ : Int) (z : Nat → Int) (v : Nat) : Int := (([how,at_,0,0,0,z 0,z 1,z 2,z 3,z 4,z 5] : List Int)[v]?).getD 0
def oP (c : Nat → Value) (kx : Value) (j : Nat) : Value := if j < 4 then c j else if j = 4 then kx else .nilFunc
theorem numsP_all : ([3,4,5,6].all fun np => numsEq (cxP np []) (htsF np) (cellsP np)) = true := by kernel_rfl
theorem htsP_val (how at_ : Int) (z : Nat → Int) (np : Nat) (hn : np ≤ 6) : (htsF np).map (fun e => strV (canon (e.val (xP how at_ z)))) = htsR np z := by
 simp only [htsF,htsR,List.map_map]
 refine List.map_congr_left fun i hi => ?_
 have hi := List.mem_range.1 hi
 simp only [Function.comp]
 unfold Num.val
 have e : Poly.ev (xP how at_ z) [([5 + i],1)] = z i := by
  have : xP how at_ z (5 + i) = z i := by
   have : i = 0 ∨ i = 1 ∨ i = 2 ∨ i = 3 ∨ i = 4 ∨ i = 5 := by omega
   rcases this with rfl | rfl | rfl | rfl | rfl | rfl <;> rfl
  simp only [Poly.ev,Poly.evM,this,Int.mul_one,Int.one_mul,Int.add_zero]
 rw [e]; rfl
section
variable {M : Mem} (hg : Good M) {np : Nat} (hn : np ∈ [3,4,5,6]) {z : Nat → Int} (hz : ∀ i,i < 6 → -38 ≤ z i ∧ z i ≤ 38) {c : Nat → Value} (hc : ∀ j,oneV (c j)) {kx : Value} (hkx : oneV kx) {tv : Value} (hterr : TerrRaw M np z tv) {how at_ : Int} (hh : 0 ≤ how ∧ how ≤ 255) (ha : 0 ≤ at_ ∧ at_ ≤ 255)
include hg hn hz hc hkx hterr hh ha
theorem pre_run2 {rems : List (Poly × Nat × Poly)} {bins : List BinRow} {off n : Nat} {ex : List V} {exR : List Value} (hrun : runPP np rems bins off n ex = true)
  (hrems : ∀ r ∈ rems,(Poly.ev (xP how at_ z) r.1).tmod (r.2.1 : Int) = Poly.ev (xP how at_ z) r.2.2) (hex : ∀ E,VRL E (cellsP np) (htsR np z) → VRL E ex exR)
  {w1 : World} {a : Act} {p4 p7 : Nat} (hon : M.On w1) (ts : a.tmps.size = 201) (t2 : a.tmps[2]? = some (.int .u8 how)) (t4 : a.tmps[4]? = some (.pointer (some ⟨p4,0,none⟩))) (t7 : a.tmps[7]? = some (.pointer (some ⟨p7,0,none⟩))) (hdf : a.defers = [])
  (h7 : w1.heap[p7]? = some (.cells #[c 0,c 1,c 2,c 3,tv] 48 (0,0))) (h4 : w1.heap[p4]? = some (.cells #[kx,.int .u8 at_] 35 (0,0))) (n74 : p7 ≠ p4)
  (z7 : ¬ (p7 < M.heap.size ∧ M.frz p7)) (z4 : ¬ (p4 < M.heap.size ∧ M.frz p4)) {QQ : Exit → Act → World → Prop}
  (hQ : ∀ (M' : Mem) (tv' : Value) (a2 : Act) (w2 : World),M.Le M' → M'.On w2 → a2.tmps.size = 201 → a2.tmps[2]? = some (.int .u8 how) → a2.tmps[4]? = some (.pointer (some ⟨p4,0,none⟩)) → a2.tmps[7]? = some (.pointer (some ⟨p7,0,none⟩)) → a2.defers = [] →
   w2.heap[p7]? = some (.cells #[c 0,c 1,c 2,c 3,tv'] 48 (0,0)) → w2.heap[p4]? = some (.cells #[kx,.int .u8 at_] 35 (0,0)) → ¬ (p7 < M'.heap.size ∧ M'.frz p7) → ¬ (p4 < M'.heap.size ∧ M'.frz p4) →
   Grew w1 w2 → (∀ b,b < w1.heap.size → b ≠ p7 → b ≠ p4 → w2.heap[b]? = w1.heap[b]?) → TextsAt M' off n exR tv' → QQ .normal a2 w2) {QX : Exit → Act → World → Prop} : cloneK.wp Tryz.prog (Exit.then (blkK.wp Tryz.prog QQ) QX) a w1 := by
 obtain ⟨b2,c2,rfl,hc2,zf2,rc2,ty2,fr2,rest2,g2,e2⟩ := hterr
 have h6 : np ≤ 6 := by simp only [List.mem_cons,List.not_mem_nil,or_false] at hn; omega
 let x := xP how at_ z
 let o := oP c kx
 have oo : ∀ j,oneV (o j) := fun j => by
  show oneV (oP c kx j)
  unfold oP
  split
  ·exact hc j
  ·split
   ·exact hkx
   ·trivial
 let B : Base := { toMem := M,sym := symX x o (cxP np rems).tab,stat := fun _ => { blk := b2,size := c2,unit := 1 } }
 have hone : ∀ i,oneV (B.sym i) := fun i => symX_one oo i
 have get : ∀ i,(cxP np rems).tab.get i = (([.int .u8 (P0 0),.int .u8 (P0 1),.int .i64 (P0 1),.opq 0,.opq 1,.opq 2,.opq 3,.opq 4] : List SE) ++ (List.range np).map fun i => .num ⟨[([5 + i],1)],2⟩)[i]? := fun i => by
  show (T.ofList .e 0 _).get i = _
  rw [T.get_ofList]
  split
  ·rw [Nat.sub_zero]
  ·rename_i hi
   rw [T.get_e,List.getElem?_eq_none (by omega)]
 have s0 : B.sym 0 = .int .u8 how := by
  show symX x o (cxP np rems).tab 0 = _
  unfold symX
  rw [get 0]
  simp only [List.cons_append,List.getElem?_cons_zero,ev_P0]; rfl
 have s1 : B.sym 1 = .int .u8 at_ := by
  show symX x o (cxP np rems).tab 1 = _
  unfold symX
  rw [get 1]
  simp only [List.cons_append,List.getElem?_cons_succ,List.getElem?_cons_zero,ev_P0]; rfl
 have sO : ∀ j,j < 5 → B.sym (3 + j) = o j := fun j hj => by
  show symX x o (cxP np rems).tab (3 + j) = o j
  unfold symX
  rw [get (3 + j)]
  have : j = 0 ∨ j = 1 ∨ j = 2 ∨ j = 3 ∨ j = 4 := by omega
  rcases this with rfl | rfl | rfl | rfl | rfl <;> rfl
 have hC : ∀ {rs},(∀ r ∈ rs,(Poly.ev x r.1).tmod (r.2.1 : Int) = Poly.ev x r.2.2) → CXOk B x o (cxP np rs) := fun {rs} hr => by
  refine ⟨fun _ _ _ => rfl,fun v => ?_,(fun f hf => by cases hf),hr,(fun p hp => by cases hp),oo,hg.pow _ _,hg.tabs⟩
  show Iv.has (((T.ofList .e 0 bdPL).get v).getD (0,0)) _
  exact bd_of (l := bdPL) (zs := [how,at_,0,0,0,z 0,z 1,z 2,z 3,z 4,z 5]) ⟨hh,ha,⟨Int.le_refl _,Int.le_refl _⟩,⟨Int.le_refl _,Int.le_refl _⟩,⟨Int.le_refl _,Int.le_refl _⟩,hz 0 (by omega),hz 1 (by omega),hz 2 (by omega),hz 3 (by omega),hz 4 (by omega),hz 5 (by omega),trivial⟩ v
 have hC0 := hC (rs := []) (fun r hr => by cases hr)
 have hcl : ∀ E,StatOk B E → VRL E (cellsP np) (htsR np z) := fun E hE => by
  have := numsEq_ok hC0 hE (List.all_eq_true.1 numsP_all np hn)
  rwa [htsP_val how at_ z np h6] at this
 have hK : KitOk B x o (kitP np rems bins) := by
  refine ⟨hC hrems,(fun f args v hv => by simp [kitP,primOf,T.get_e] at hv),(fun f es he => by simp [kitP,T.get_e] at he),fun m cs hm => ?_,(fun p hp => by cases hp),(fun p hp => by cases hp),(fun p hp => by cases hp)⟩
  have hm := tmk_mem (l := [(34,cellsP np)]) hm
  cases List.mem_singleton.1 hm
  exact ⟨by omega,by omega,(Array.getElem?_eq_some_iff.1 g2).1,zf2,rc2,ty2,fr2,g2,fun E hE => ⟨_,rest2,hcl E hE,e2⟩⟩
 have vH : ∀ E,StatOk B E → VR E (.slice 34 0 np (2 * np + 1)) (slV b2 np c2) := fun E hE => ⟨_,hE.stat 34 (by omega) (by omega),by
  show slV b2 np c2 = .slice (some ⟨b2,0,none⟩) np (capOf { blk := b2,size := c2,unit := 1 } 0 (2 * np + 1))
  unfold capOf slV
  rw [if_neg (by omega)]
  simp only [Nat.sub_zero,Nat.div_one]
  congr 1
  omega⟩
 have vO : ∀ E,StatOk B E → ∀ j,j < 5 → VR E (.sym (3 + j)) (o j) := fun E hE j hj => by show o j = E.sym (3 + j); rw [hE.sym,sO j hj]
 have v4 : ∀ E,StatOk B E → VRL E [.sym 3,.sym 4,.sym 5,.sym 6] [c 0,c 1,c 2,c 3] := fun E hE => VRL.cons (vO E hE 0 (by omega)) (VRL.cons (vO E hE 1 (by omega)) (VRL.cons (vO E hE 2 (by omega)) (VRL.cons (vO E hE 3 (by omega)) VRL.nil)))
 have vS : ∀ E,StatOk B E → VRL E [.sym 7,.sym 1] [kx,.int .u8 at_] := fun E hE => VRL.cons (vO E hE 4 (by omega)) (VRL.cons (by show _ = E.sym 1; rw [hE.sym,s1]) VRL.nil)
 let bs : List Box := [⟨p7,chartP np,[c 0,c 1,c 2,c 3,slV b2 np c2],48⟩,⟨p4,[.sym 7,.sym 1],[kx,.int .u8 at_],35⟩]
 have hbs : BoxesOk B w1 bs := by
  refine ⟨hon,fun b hb => ?_,fun b hb E hE => ?_,fun i j x y hi hj he => ?_,fun b hb => ?_⟩
  ·rcases List.mem_cons.1 hb with rfl | hb
   ·exact h7
   ·rw [List.mem_singleton.1 hb]; exact h4
  ·rcases List.mem_cons.1 hb with rfl | hb
   ·exact (v4 E hE).append (VRL.cons (vH E hE) VRL.nil)
   ·rw [List.mem_singleton.1 hb]; exact vS E hE
  ·match i,j,hi,hj with
   | 0,0,_,_ | 1,1,_,_ => rfl
   | 0,1,hi,hj => simp [bs] at hi hj; subst hi; subst hj; exact absurd he n74
   | 1,0,hi,hj => simp [bs] at hi hj; subst hi; subst hj; exact absurd he.symm n74
   | n + 2,_,hi,_ => simp [bs] at hi
   | 0,n + 2,_,hj | 1,n + 2,_,hj => simp [bs] at hj
  ·rcases List.mem_cons.1 hb with rfl | hb
   ·exact z7
   ·rw [List.mem_singleton.1 hb]; exact z4
 have hok := boxes_ok (h := hone) hbs
 have hfoot : ∀ b,Foot (boxE B hone bs) (sP np).h.get b → b = p7 ∨ b = p4 := by
  intro b hf
  obtain ⟨x,hx,rfl⟩ := boxes_foot (l := bs) hf
  rcases List.mem_cons.1 hx with rfl | hx
  ·exact .inl rfl
  ·rw [List.mem_singleton.1 hx]; exact .inr rfl
 have htr : TR (boxE B hone bs) (sP np).t a.tmps := by
  intro k v hk
  have hk : (((T.e.set 2 (V.sym 0)).set 4 (.ptr 65 0)).set 7 (.ptr 64 0)).get k = some v := hk
  rw [T.get_set] at hk
  by_cases c7 : k = 7
  ·rw [if_pos c7] at hk; cases hk; subst c7; exact ⟨_,t7,_,boxE_at (j := 0) rfl,rfl⟩
  ·rw [if_neg c7,T.get_set] at hk
   by_cases c4 : k = 4
   ·rw [if_pos c4] at hk; cases hk; subst c4; exact ⟨_,t4,_,boxE_at (j := 1) rfl,rfl⟩
   ·rw [if_neg c4,T.get_set] at hk
    by_cases c2 : k = 2
    ·rw [if_pos c2] at hk; cases hk; subst c2; exact ⟨_,t2,by show _ = B.sym 0; rw [s0]⟩
    ·rw [if_neg c2,T.get_e] at hk; cases hk
 simp only [runPP,Bool.and_eq_true] at hrun
 obtain ⟨hchk,hrun⟩ := hrun
 split at hrun
 ·rename_i outs0 hcode0
  refine pre_wp (kitP np rems bins).tabOk ((kitP np rems bins).fnOk hK hchk) hcode0 hok htr rfl hdf (by rw [ts]; exact cloneK_dst) fun o0 ho0 a0 w0 E0 hat0 => ?_
  have hr0 := List.all_eq_true.1 hrun o0 ho0
  simp only [Bool.and_eq_true] at hr0
  obtain ⟨⟨l1,l2⟩,l3⟩ := hr0
  have hx0 : XE o0.1 = .normal := by
   cases h : o0.1 <;> rw [h] at l1 <;> first | rfl | cases l1
  rw [hx0]
  have hm0 : o0.2.m = [] := by
   cases hml : o0.2.m with
   | nil => rfl
   | cons _ _ => rw [hml] at l2; cases l2
  have hd0 : a0.defers = [] := by
   have hm := hat0.marks
   rw [hm0] at hm; exact hm
  split at l3
  rotate_left
  ·cases l3
  rename_i outs hcode
  show blkK.wp Tryz.prog QQ a0 w0
  refine pre_wp (kitP np rems bins).tabOk ((kitP np rems bins).fnOk hK hchk) hcode (hok.step hat0.step) hat0.tr hm0 hd0 (by rw [hat0.size,ts]; exact blkK_dst) fun o ho a2 w2 E2 hat1 => ?_
  have hat : At (boxE B hone bs) (sP np).h.get (sP np).nx w1 a.tmps.size E2 o.2 a2 w2 := ⟨hat0.step.trans hat1.step,hat1.tr,hat1.marks,hat1.size.trans hat0.size⟩
  have hro := List.all_eq_true.1 l3 o ho
  have hok2 := hok.step hat.step
  unfold outOk at hro
  simp only [Bool.and_eq_true] at hro
  obtain ⟨⟨⟨⟨⟨⟨k1,k2⟩,k3⟩,k4⟩,k5⟩,k6⟩,k7⟩ := hro
  have hx : XE o.1 = .normal := by
   cases h : o.1 <;> rw [h] at k1 <;> first | rfl | cases k1
  rw [hx]
  have tget : ∀ {k : Nat} {v : V},(match o.2.t.get k with | some u => V.eq u v | none => false) = true → ∃ y,a2.tmps[k]? = some y ∧ VR E2 v y := by
   intro k v h
   split at h
   ·rename_i u hu
    obtain ⟨y,hy,hv⟩ := hat.tr k u hu
    rw [V.eq_eq _ _ h] at hv
    exact ⟨y,hy,hv⟩
   ·cases h
  have e64 : E2.at_ 64 = some { blk := p7,size := 5,unit := 0 } := hat.step.le.2 _ _ (boxE_at (j := 0) (l := bs) rfl)
  have e65 : E2.at_ 65 = some { blk := p4,size := 2,unit := 0 } := hat.step.le.2 _ _ (boxE_at (j := 1) (l := bs) rfl)
  obtain ⟨y7,ty7,i7,hi7,rfl⟩ := tget k3
  obtain ⟨y4,ty4,i4,hi4,rfl⟩ := tget k4
  obtain ⟨y2,ty2',hy2⟩ := tget k5
  rw [e64] at hi7; cases hi7
  rw [e65] at hi4; cases hi4
  have hy2 : y2 = .int .u8 how := by rw [show y2 = E2.sym 0 from hy2,hok2.sym.sym,s0]
  subst hy2
  have hmd : a2.defers = [] := by
   have hm := hat.marks
   cases hml : o.2.m with
   | nil => rw [hml] at hm; exact hm
   | cons _ _ => rw [hml] at k2; cases k2
  split at k6
  ·rename_i cs5 t5 g5
   simp only [Bool.and_eq_true] at k6
   have k6a := nbeq_true k6.1
   have k6b := V.eqL_eq _ _ k6.2
   subst k6a; subst k6b
   obtain ⟨i5,hi5,_,rc5,f5,q1,q2,q3,xs5,rest5,hx5,hr5⟩ := hok2.rel.obj _ _ g5
   rw [e65] at hi5; cases hi5
   have hxs5 := VRL.det _ _ _ hx5 (vS E2 hok2.sym)
   subst hxs5
   have hl5 : rest5 = [] := by
    have := congrArg List.length hr5
    simp only [List.length_append,Array.length_toList,List.length_cons,List.length_nil] at this
    have q2 : rc5.size = 2 := q2
    exact List.length_eq_zero_iff.1 (by omega)
   rw [hl5,List.append_nil] at hr5
   have hb4 : w2.heap[p4]? = some (.cells #[kx,.int .u8 at_] 35 (0,0)) := by
    have : rc5 = #[kx,.int .u8 at_] := by rw [← hr5]
    rw [← this,← q3 rfl]; exact q1
   split at k7
   ·rename_i va vb vc vd ne f kk cap t6 g6
    simp only [Bool.and_eq_true] at k7
    obtain ⟨⟨⟨⟨⟨⟨j0,j1⟩,j2⟩,j3⟩,j4⟩,j5⟩,j6⟩ := k7
    have j0 := nbeq_true j0
    have j1 := V.eqL_eq _ _ j1
    have j2 := nbeq_true j2
    have j3 := nbeq_true j3
    have j4 := nble_le j4
    have j5 := nble_le j5
    simp only [List.cons.injEq,and_true] at j1
    obtain ⟨rfl,rfl,rfl,rfl⟩ := j1
    subst j0; subst j2; subst j3
    obtain ⟨i6,hi6,_,rc6,f6,u1,u2,u3,xs6,rest6,hx6,hr6⟩ := hok2.rel.obj _ _ g6
    rw [e64] at hi6; cases hi6
    obtain ⟨x0,_,rfl,h0,x1,_,rfl,h1,x2,_,rfl,h2,x3,_,rfl,h3,tv',_,rfl,htv,hnil⟩ := hx6
    rw [show _ = [] from hnil] at hr6
    have e0 : x0 = c 0 := by rw [show x0 = E2.sym 3 from h0,hok2.sym.sym]; exact sO 0 (by omega)
    have e1 : x1 = c 1 := by rw [show x1 = E2.sym 4 from h1,hok2.sym.sym]; exact sO 1 (by omega)
    have e2' : x2 = c 2 := by rw [show x2 = E2.sym 5 from h2,hok2.sym.sym]; exact sO 2 (by omega)
    have e3 : x3 = c 3 := by rw [show x3 = E2.sym 6 from h3,hok2.sym.sym]; exact sO 3 (by omega)
    subst e0; subst e1; subst e2'; subst e3
    have hl6 : rest6 = [] := by
     have := congrArg List.length hr6
     simp only [List.length_append,Array.length_toList,List.length_cons,List.length_nil] at this
     have u2 : rc6.size = 5 := u2
     exact List.length_eq_zero_iff.1 (by omega)
    rw [hl6,List.append_nil] at hr6
    have hb7 : w2.heap[p7]? = some (.cells #[c 0,c 1,c 2,c 3,tv'] 48 (0,0)) := by
     have : rc6 = #[c 0,c 1,c 2,c 3,tv'] := by rw [← hr6]
     rw [← this,← u3 rfl]; exact u1
    split at j6
    ·rename_i cse te ue ze gne
     obtain ⟨ie,hie,rfl⟩ := htv
     obtain ⟨ie',hie',_,rce,fre,r1,r2,r3,xse,reste,hxe,hre⟩ := hok2.rel.obj _ _ gne
     rw [hie] at hie'; cases hie'
     have htk := hxe.take ex.length
     rw [V.eqL_eq _ _ j6] at htk
     have hexR := VRL.det _ _ _ htk (hex E2 (hcl E2 hok2.sym))
     let M' : Mem := ⟨w2.heap,fun b => (b < M.heap.size ∧ M.frz b) ∨ b = ie.blk⟩
     have hfree : ∀ (m pm s : Nat) (op : O),o.2.h.get m = some op → m < 66 → E2.at_ m = some { blk := pm,size := s,unit := 0 } → ¬ (pm < M.heap.size ∧ M.frz pm) → ¬ (pm < M'.heap.size ∧ M'.frz pm) := by
      rintro m pm s op hm hlt hem hnf ⟨_,hz | hz⟩
      ·exact hnf hz
      ·have := hok2.rel.inj m ne op _ _ ie hm gne hem hie hz
       omega
     refine hQ M' _ a2 w2 ⟨hok2.inv.size,fun b hb hz => ⟨.inl ⟨hb,hz⟩,hok2.inv.same b hb hz⟩⟩ ⟨Nat.le_refl _,fun _ _ _ => rfl⟩ (by rw [hat.size,ts]) ty2' ty4 ty7 hmd hb7 hb4 (hfree 64 p7 5 _ g6 (by omega) e64 z7) (hfree 65 p4 2 _ g5 (by omega) e65 z4) hat.step.grew
      (fun b hb n7 n4 => hat.step.frame b hb (fun hf => by rcases hfoot b hf with h | h; exact n7 h; exact n4 h)) ⟨ie.blk,capOf ie f cap,rce,te,fre,xse.drop ex.length ++ reste,rfl,?_,.inr rfl,r1,?_⟩
     ·unfold capOf
      split
      ·exact j4
      ·exact Nat.le_trans j4 (Nat.le_max_left _ _)
     ·rw [hre,← hexR,← List.append_assoc,List.take_append_drop]
    ·cases j6
   ·cases k7
  ·cases k6
 ·cases hrun
end
end Go.Proofs.YteempkgmaohpnaaGreatDoor
namespace Go.Proofs.YteempkgmaohpnaaGreatDoor
open Go.RowKit Go Ev Klp
theorem restK_eq : restK = cloneK.seq (blkK.seq rest12) := rfl
def cc (m0 m1 bs sv tv : Value) (j : Nat) : Value := if j = 0 then m0 else if j = 1 then m1 else if j = 2 then bs else if j = 3 then sv else tv
theorem cc_one {m0 m1 bs sv tv : Value} (h0 : oneV m0) (h1 : oneV m1) (h2 : oneV bs) (h3 : oneV sv) (h4 : oneV tv) (j : Nat) : oneV (cc m0 m1 bs sv tv j) := by
 unfold cc
 split
 ·exact h0
 ·split
  ·exact h1
  ·split
   ·exact h2
   ·split
    ·exact h3
    ·exact h4
theorem TextsAt.raw {M : Mem} {n : Nat} {l : List Value} {tv : Value} (h : TextsAt M 0 n l tv) (hl : l.length = n) : TextsRaw M l tv := by
 obtain ⟨b,c,rc,t,fr,rest,rfl,h2,h3,h4,h5⟩ := h
 exact ⟨b,c,rc,t,fr,rest,by rw [hl]; rfl,by rw [hl]; exact h2,h3,h4,h5⟩
theorem TextsAt.one {M : Mem} {off n : Nat} {l : List Value} {tv : Value} (h : TextsAt M off n l tv) : oneV tv := by
 obtain ⟨b,c,rc,t,fr,rest,rfl,_⟩ := h; trivial
section
variable {M : Mem} (hg : Good M) {np : Nat} (hn : np ∈ [3,4,5,6]) {z : Nat → Int} (hz : ∀ i,i < 6 → -38 ≤ z i ∧ z i ≤ 38) {b0 c0 b1 nt : Nat} {sv tv : Value} (hsv : oneV sv)
 (hmesh : CallOk Tryz.prog M 29 [.agg #[slV b0 np c0,slV b1 nt nt]] (.int .i64 0)) (hhist : HistR M (slV b0 np c0) (slV b1 nt nt) sv) (hterr : TerrRaw M np z tv)
 {how kx at_ : Int} (hh : 0 ≤ how ∧ how ≤ 255) (ha : 0 ≤ at_ ∧ at_ ≤ 255)
 {w w1 : World} {a : Act} {p4 p7 : Nat} (hon : M.On w1) (ts : a.tmps.size = 201) (t2 : a.tmps[2]? = some (.int .u8 how)) (t4 : a.tmps[4]? = some (.pointer (some ⟨p4,0,none⟩))) (t7 : a.tmps[7]? = some (.pointer (some ⟨p7,0,none⟩))) (hdf : a.defers = [])
 (h7 : w1.heap[p7]? = some (.cells #[slV b0 np c0,slV b1 nt nt,strB baseB,sv,tv] 48 (0,0)))
 (h4 : w1.heap[p4]? = some (.cells #[.int .u8 kx,.int .u8 at_] 35 (0,0))) (n74 : p7 ≠ p4)
 (z7 : ¬ (p7 < M.heap.size ∧ M.frz p7)) (z4 : ¬ (p4 < M.heap.size ∧ M.frz p4)) (hgr : Grew w w1) (hfr : ∀ b,b < w.heap.size → w1.heap[b]? = w.heap[b]?) (q7 : w.heap.size ≤ p7) (q4 : w.heap.size ≤ p4)
include hg hn hz hsv hmesh hhist hterr hh ha hon ts t2 t4 t7 hdf h7 h4 n74 z7 z4 hgr hfr q7 q4
theorem how_123 {rems : List (Poly × Nat × Poly)} {bins : List BinRow} {off n : Nat} {ex : List V} {exR : List Value} (hrun : runPP np rems bins off n ex = true)
  (hrems : ∀ r ∈ rems,(Poly.ev (xP how at_ z) r.1).tmod (r.2.1 : Int) = Poly.ev (xP how at_ z) r.2.2) (hex : ∀ E,VRL E (cellsP np) (htsR np z) → VRL E ex exR)
  (hf : ∀ M' tv',M.Le M' → TextsAt M' off n exR tv' → ∃ f : Int,(0 ≤ f ∧ f ≤ 40) ∧ CallOk Tryz.prog M' 10 [.agg #[slV b0 np c0,slV b1 nt nt],tv'] (.int .i64 f)) :
  restK.wp Tryz.prog (bodyPost Tryz.prog Tryz.f3 (LawP w)) a w1 := by
 rw [restK_eq]
 have htv : oneV tv := by obtain ⟨_,_,rfl,_⟩ := hterr; trivial
 refine wp_seq (wp_mono (pre_run2 hg hn hz (c := cc (slV b0 np c0) (slV b1 nt nt) (strB baseB) sv tv) (cc_one trivial trivial trivial hsv htv) (kx := .int .u8 kx) trivial hterr hh ha hrun hrems hex hon ts t2 t4 t7 hdf h7 h4 n74 z7 z4
  (QQ := Exit.then (rest12.wp Tryz.prog (bodyPost Tryz.prog Tryz.f3 (LawP w))) (bodyPost Tryz.prog Tryz.f3 (LawP w))) (QX := bodyPost Tryz.prog Tryz.f3 (LawP w)) ?_) ?_)
 ·intro M' tv' a2 w2 hle hon2 s2 u2 u4 u7 d2 g7 g4 nz7 nz4 gr fr htx
  show rest12.wp _ _ a2 w2
  refine checks_tail (hg.le hle) (c := cc (slV b0 np c0) (slV b1 nt nt) (strB baseB) sv tv') (cc_one trivial trivial trivial hsv htx.one) hon2 s2 u7 d2 g7 nz7 (hgr.trans gr) (fun b hb => ?_) q7 (h := 0) ⟨by omega,by omega⟩ (hhist.chk.le hle) (fun _ => hf M' tv' hle htx)
  rw [fr b (Nat.lt_of_lt_of_le hb hgr.size) (by omega) (by omega),hfr b hb]
 ·intro e a' w' h
  cases e <;> first | exact wp_seq h | exact h
theorem how_1 (h1 : how.tmod 4 = 1) : restK.wp Tryz.prog (bodyPost Tryz.prog Tryz.f3 (LawP w)) a w1 := by
 have hp : 0 < np := by simp only [List.mem_cons,List.not_mem_nil,or_false] at hn; omega
 obtain ⟨r1,r2⟩ := tmod_rn (z := at_) (n := np) hp ha.1
 obtain ⟨k,hk⟩ : ∃ k : Nat,at_.tmod np = k := ⟨(at_.tmod np).toNat,by omega⟩
 have hkn : k < np := by omega
 refine how_123 hg hn hz hsv hmesh hhist hterr hh ha hon ts t2 t4 t7 hdf h7 h4 n74 z7 z4 hgr hfr q7 q4 (List.all_eq_true.1 (List.all_eq_true.1 runP1_all np hn) k (List.mem_range.2 hkn)) (exR := (htsR np z).set k (strB badB)) (fun r hr => ?_)
  (fun E h => VRL.setG k h (show VR E (.str badB) (strB badB) from rfl)) (fun M' tv' hle htx => ⟨2,⟨by omega,by omega⟩,field_1 (hg.le hle) hn hz ⟨_,_,rfl⟩ trivial (hmesh.le hle) hkn (htx.raw (by simp [htsR]))⟩)
 simp only [rmH,List.cons_append,List.nil_append,List.mem_cons,List.not_mem_nil,or_false] at hr
 rcases hr with rfl | rfl
 ·rw [ev_P0]; exact h1
 ·rw [ev_P0]
  show at_.tmod np = Int.ofNat k * 1 + 0
  rw [hk]; simp
theorem how_2 (h1 : how.tmod 4 = 2) : restK.wp Tryz.prog (bodyPost Tryz.prog Tryz.f3 (LawP w)) a w1 := by
 refine how_123 hg hn hz hsv hmesh hhist hterr hh ha hon ts t2 t4 t7 hdf h7 h4 n74 z7 z4 hgr hfr q7 q4 (List.all_eq_true.1 runP2_all np hn) (exR := htsR np z) (fun r hr => ?_) (fun E h => h)
  (fun M' tv' hle htx => ⟨5,⟨by omega,by omega⟩,field_2 (hg.le hle) hn hz ⟨_,_,rfl⟩ trivial (hmesh.le hle) (by obtain ⟨b,c,_,_,_,_,e,_⟩ := htx; exact ⟨_,_,e⟩)⟩)
 rw [List.mem_singleton.1 hr,ev_P0]; exact h1
theorem how_3 (h1 : how.tmod 4 = 3) : restK.wp Tryz.prog (bodyPost Tryz.prog Tryz.f3 (LawP w)) a w1 := by
 refine how_123 hg hn hz hsv hmesh hhist hterr hh ha hon ts t2 t4 t7 hdf h7 h4 n74 z7 z4 hgr hfr q7 q4 (List.all_eq_true.1 runP3_all np hn) (exR := htsR np z) (fun r hr => ?_) (fun E h => h)
  (fun M' tv' hle htx => ⟨0,⟨by omega,by omega⟩,field_0 (hg.le hle) hn hz ⟨_,_,rfl⟩ trivial (hmesh.le hle) (htx.raw (by simp [htsR]))⟩)
 rw [List.mem_singleton.1 hr,ev_P0]; exact h1
end
end Go.Proofs.YteempkgmaohpnaaGreatDoor
namespace Go.Proofs.YteempkgmaohpnaaGreatDoor
open Go.RowKit Go Ev Klp
noncomputable def runCl (np : Nat) : Bool := (kitP np [] []).chk && (match (recN (kitP np [] []).tab 10000 60).call 7 [.slice 34 0 np (2 * np + 1)] .e 64 with
 | some (.slice ne 0 k cap,h,_) => Nat.beq k np && Nat.ble k (cap / 2) && (match h.get ne with
  | some (.cells cs _ _ _) => V.eqL (cs.take np) (cellsP np)
  | _ => false)
 | _ => false)
theorem runCl_all : ([3,4,5,6].all runCl) = true := by kernel_rfl
theorem clone_ok {M : Mem} (hg : Good M) {np : Nat} (hn : np ∈ [3,4,5,6]) {z : Nat → Int} (hz : ∀ i,i < 6 → -38 ≤ z i ∧ z i ≤ 38) {tv : Value} (hterr : TerrRaw M np z tv) {w : World} (hw : M.On w) :
  Calls Tryz.prog 7 #[tv] w (RetM M w fun y M' => TextsAt M' 0 np (htsR np z) y) := by
 obtain ⟨b2,c2,rfl,hc2,zf2,rc2,ty2,fr2,rest2,g2,e2⟩ := hterr
 have h6 : np ≤ 6 := by simp only [List.mem_cons,List.not_mem_nil,or_false] at hn; omega
 let x := xP 0 0 z
 let o : Nat → Value := fun _ => .nilFunc
 let B : Base := { toMem := M,sym := symX x o (cxP np []).tab,stat := fun _ => { blk := b2,size := c2,unit := 1 } }
 have hone : ∀ i,oneV (B.sym i) := fun i => symX_one (o := o) (fun _ => trivial) i
 have hC : CXOk B x o (cxP np []) := by
  refine ⟨fun _ _ _ => rfl,fun v => ?_,(fun f hf => by cases hf),(fun r hr => by cases hr),(fun p hp => by cases hp),(fun _ => trivial),hg.pow _ _,hg.tabs⟩
  show Iv.has (((T.ofList .e 0 bdPL).get v).getD (0,0)) _
  exact bd_of (l := bdPL) (zs := [0,0,0,0,0,z 0,z 1,z 2,z 3,z 4,z 5]) ⟨⟨by omega,by omega⟩,⟨by omega,by omega⟩,⟨Int.le_refl _,Int.le_refl _⟩,⟨Int.le_refl _,Int.le_refl _⟩,⟨Int.le_refl _,Int.le_refl _⟩,hz 0 (by omega),hz 1 (by omega),hz 2 (by omega),hz 3 (by omega),hz 4 (by omega),hz 5 (by omega),trivial⟩ v
 have hcl : ∀ E,StatOk B E → VRL E (cellsP np) (htsR np z) := fun E hE => by
  have := numsEq_ok hC hE (List.all_eq_true.1 numsP_all np hn)
  rwa [htsP_val 0 0 z np h6] at this
 have hK : KitOk B x o (kitP np [] []) := by
  refine ⟨hC,(fun f args v hv => by simp [kitP,primOf,T.get_e] at hv),(fun f es he => by simp [kitP,T.get_e] at he),fun m cs hm => ?_,(fun p hp => by cases hp),(fun p hp => by cases hp),(fun p hp => by cases hp)⟩
  have hm := tmk_mem (l := [(34,cellsP np)]) hm
  cases List.mem_singleton.1 hm
  exact ⟨by omega,by omega,(Array.getElem?_eq_some_iff.1 g2).1,zf2,rc2,ty2,fr2,g2,fun E hE => ⟨_,rest2,hcl E hE,e2⟩⟩
 have hE0 : StatOk B (baseE B hone) := base_stat
 have hrun := List.all_eq_true.1 runCl_all np hn
 simp only [runCl,Bool.and_eq_true] at hrun
 obtain ⟨hchk,hrun⟩ := hrun
 have vH : VRL (baseE B hone) [.slice 34 0 np (2 * np + 1)] [slV b2 np c2] := VRL.cons ⟨_,hE0.stat 34 (by omega) (by omega),by
  show slV b2 np c2 = .slice (some ⟨b2,0,none⟩) np (capOf { blk := b2,size := c2,unit := 1 } 0 (2 * np + 1))
  unfold capOf slV
  rw [if_neg (by omega)]
  simp only [Nat.sub_zero,Nat.div_one]
  congr 1
  omega⟩ VRL.nil
 split at hrun
 ·rename_i ne k cap h nx hr
  simp only [Bool.and_eq_true] at hrun
  obtain ⟨⟨j1,j2⟩,j3⟩ := hrun
  have j1 := nbeq_true j1
  have j2 := nble_le j2
  subst j1
  refine call_ret hK hchk hone hr vH hw fun y E' w' hv hok' hnew => ?_
  split at j3
  ·rename_i cs te ue ze hne
   obtain ⟨ie,hie,rfl⟩ := hv
   obtain ⟨ie',hie',_,rc,fr,r1,r2,r3,xs,rest,hxs,hrc⟩ := hok'.rel.obj _ _ hne
   rw [hie] at hie'; cases hie'
   have htk := hxs.take k
   rw [V.eqL_eq _ _ j3] at htk
   have hex := VRL.det _ _ _ htk (hcl E' hok'.sym)
   refine ⟨ie.blk,capOf ie 0 cap,rc,te,fr,xs.drop k ++ rest,rfl,?_,.inr ⟨ne,_,ie,hne,hie,rfl⟩,r1,by rw [hrc,← hex,← List.append_assoc,List.take_append_drop]⟩
   unfold capOf
   split
   ·exact j2
   ·exact Nat.le_trans j2 (Nat.le_max_left _ _)
  ·cases j3
 ·cases hrun
end Go.Proofs.YteempkgmaohpnaaGreatDoor
namespace Go.Proofs.YteempkgmaohpnaaGreatDoor
open Go.RowKit Go Ev Klp
def QuietP (v : Value) (w : World) (e : Ending) (w' : World) : Prop := e = .returned v ∧ Grew w w' ∧ ∀ b,b < w.heap.size → w'.heap[b]? = w.heap[b]?
theorem QuietP.on {M : Mem} {v : Value} {w : World} {e : Ending} {w' : World} (h : QuietP v w e w') (hw : M.On w) : M.On w' :=
 ⟨Nat.le_trans hw.size h.2.1.size,fun b hb hz => (h.2.2 b (Nat.lt_of_lt_of_le hb hw.size)).trans (hw.same b hb hz)⟩
theorem grew_alloc (w : World) (o : Obj) : Grew w (w.alloc o) := ⟨rfl,rfl,rfl,by rw [alloc_heap,Array.size_push]; omega⟩
theorem same_alloc (w : World) (o : Obj) : ∀ b,b < w.heap.size → (w.alloc o).heap[b]? = w.heap[b]? := fun b hb => by rw [alloc_heap,Array.getElem?_push,if_neg (Nat.ne_of_lt hb)]
def planR (k s0 s1 : Int) (hf half : Bool) (ds : Value) (hv : Nat → Int) : Value :=
 .agg #[.int .u8 k,.int .i8 s0,.int .i8 s1,.bool hf,ds,.int .i8 (hv 0),.int .i8 (hv 1),.int .i8 (hv 2),.int .i8 (hv 3),.int .i8 (hv 4),.int .i8 (hv 5),.bool half]
theorem fits_walk {k s0 s1 : Int} {hf half : Bool} {b : Option Addr} {n c : Nat} {hv : Nat → Int} (w : World) :
  Calls Tryz.prog 5 #[planR k s0 s1 hf half (.slice b n c) hv] w (QuietP (.bool (decide ((n : Int) ≤ 2))) w) := by
 unfold planR
 go_enter Tryz.func5,Tryz.ntmps5
 go_wp2_with fail
 go_ret
 exact ⟨rfl,grew_alloc _ _,same_alloc _ _⟩
theorem QuietP.then {v v' : Value} {w w1 w2 : World} {e e' : Ending} (h : QuietP v w e w1) (h' : QuietP v' w1 e' w2) : QuietP v' w e' w2 :=
 ⟨h'.1,h.2.1.trans h'.2.1,fun b hb => (h'.2.2 b (Nat.lt_of_lt_of_le hb h.2.1.size)).trans (h.2.2 b hb)⟩
theorem box12 {w : World} {b t : Nat} {x0 x1 x2 x3 x4 x5 x6 x7 x8 x9 x10 x11 : Value} (h : w.heap[b]? = some (.cells #[x0,x1,x2,x3,x4,x5,x6,x7,x8,x9,x10,x11] t (0,0))) :
  w.cell? ⟨b,0,none⟩ = some x0 ∧ w.cell? ⟨b,1,none⟩ = some x1 ∧ w.cell? ⟨b,2,none⟩ = some x2 ∧ w.cell? ⟨b,3,none⟩ = some x3 ∧ w.cell? ⟨b,4,none⟩ = some x4 ∧ w.cell? ⟨b,5,none⟩ = some x5 ∧ w.cell? ⟨b,6,none⟩ = some x6 ∧ w.cell? ⟨b,7,none⟩ = some x7 ∧ w.cell? ⟨b,8,none⟩ = some x8 ∧ w.cell? ⟨b,9,none⟩ = some x9 ∧ w.cell? ⟨b,10,none⟩ = some x10 ∧ w.cell? ⟨b,11,none⟩ = some x11 := by
 refine ⟨?_,?_,?_,?_,?_,?_,?_,?_,?_,?_,?_,?_⟩ <;> (unfold World.cell?; simp only [h]; rfl)
theorem body3 : Tryz.f3.body = some ((sq1 (bodyOf Tryz.f3)).seq ((sq1 (sq2 (bodyOf Tryz.f3))).seq ((sq1 (sq2 (sq2 (bodyOf Tryz.f3)))).seq restK))) := rfl
def slipR (kx at_ : Int) : Value := .agg #[.int .u8 kx,.int .u8 at_]
theorem two_old (w : World) (o o' : Obj) (b : Nat) (hb : b < w.heap.size) : ((w.alloc o).alloc o').heap[b]? = w.heap[b]? := by
 rw [same_alloc _ _ b (by rw [alloc_heap,Array.size_push]; omega),same_alloc _ _ b hb]
theorem two_0 (w : World) (o o' : Obj) : ((w.alloc o).alloc o').heap[w.heap.size]? = some o := by
 rw [same_alloc _ _ _ (by rw [alloc_heap,Array.size_push]; omega),alloc_heap,Array.getElem?_push,if_pos rfl]
theorem two_1 (w : World) (o o' : Obj) : ((w.alloc o).alloc o').heap[w.heap.size + 1]? = some o' := by
 rw [alloc_heap,Array.getElem?_push,if_pos (by rw [alloc_heap,Array.size_push])]
theorem two_size (w : World) (o o' : Obj) : ((w.alloc o).alloc o').heap.size = w.heap.size + 2 := by
 rw [alloc_heap,Array.size_push,alloc_heap,Array.size_push]
set_option maxHeartbeats 1000000 in
set_option maxRecDepth 4000 in
theorem many_wp {M : Mem} {k s0 s1 : Int} {hf half : Bool} {ds : Value} {hv : Nat → Int} {kx at_ how : Int} {w : World} (hw : M.On w) (hk : ∀ w,M.On w → Calls Tryz.prog 4 #[] w (QuietP (.bool true) w))
  (hfit : ∀ w,Calls Tryz.prog 5 #[planR k s0 s1 hf half ds hv] w (QuietP (.bool false) w)) :
  Code.wp Tryz.prog ((sq1 (bodyOf Tryz.f3)).seq ((sq1 (sq2 (bodyOf Tryz.f3))).seq ((sq1 (sq2 (sq2 (bodyOf Tryz.f3)))).seq restK))) (bodyPost Tryz.prog Tryz.f3 (LawP w)) { tmps := #[.agg #[.int .u8 k,.int .i8 s0,.int .i8 s1,.bool hf,ds,.int .i8 (hv 0),.int .i8 (hv 1),.int .i8 (hv 2),.int .i8 (hv 3),.int .i8 (hv 4),.int .i8 (hv 5),.bool half],.agg #[.int .u8 kx,.int .u8 at_],.int .u8 how] ++ Array.replicate (201 - 3) undef,defers := [] } w := by
 have K := Lib.hid hk; clear hk
 have F := Lib.hid hfit; clear hfit
 have HW := Lib.hid hw; clear hw
 generalize restK = rest at *
 simp only [sq1,sq2,bodyOf,Tryz.f3,Option.getD_some,List.size_toArray,List.length_cons,List.length_nil,Nat.reduceAdd,Nat.reduceSub,Array.replicate_succ,Array.replicate_zero,List.push_toArray,List.append_toArray,List.nil_append,List.cons_append]
 go_wp2_with fail
 refine (K.out _ (On.alloc (On.alloc HW.out _) _)).mono ?_
 intro e w1 h1
 have hb := (h1.2.2 w.heap.size (by rw [two_size]; omega)).trans (two_0 _ _ _)
 have e1 := h1.1
 obtain ⟨c0,c1,c2,c3,c4,c5,c6,c7,c8,c9,c10,c11⟩ := box12 hb
 have H1 := Lib.hid h1; clear h1
 subst e1
 go_wp2_with fail
 refine (F.out _).mono ?_
 intro e w2 h2
 have h12 := H1.out.then h2
 have e2 := h2.1
 have H2 := Lib.hid h12; clear h12 h2
 clear c0 c1 c2 c3 c4 c5 c6 c7 c8 c9 c10 c11
 subst e2
 go_wp2_with fail
 refine (K.out _ (H2.out.on (On.alloc (On.alloc HW.out _) _))).mono ?_
 intro e w3 h3
 have h23 := H2.out.then h3
 have e3 := h3.1
 have H3 := Lib.hid h23; clear h23 h3
 subst e3
 go_wp2_with fail
 go_ret
 exact ⟨rfl,((grew_alloc _ _).trans (grew_alloc _ _)).trans H3.out.2.1,fun b hb => (H3.out.2.2 b (by rw [two_size]; omega)).trans (two_old _ _ _ b hb)⟩
set_option maxHeartbeats 1000000 in
set_option maxRecDepth 4000 in
theorem few_wp {M : Mem} {k s0 s1 : Int} {hf half : Bool} {ds : Value} {hv : Nat → Int} {kx at_ how : Int} {w : World} (hw : M.On w) (hk : ∀ w,M.On w → Calls Tryz.prog 4 #[] w (QuietP (.bool true) w))
  (hfit : ∀ w,Calls Tryz.prog 5 #[planR k s0 s1 hf half ds hv] w (QuietP (.bool true) w)) {np nt : Nat} {X : Value → Value → Mem → Prop} {z : Nat → Int} (hm : ∀ w,M.On w → Calls Tryz.prog 6 #[planR k s0 s1 hf half ds hv] w (RetM M w (Post34 np nt X z)))
  {QQ : Exit → Act → World → Prop} (hQ : ∀ (M1 : Mem) (b0 c0 b1 c1 : Nat) (sv tv : Value) (p4 p7 : Nat) (a : Act) (w1 : World),M1.On w1 → a.tmps.size = 201 → a.tmps[2]? = some (.int .u8 how) → a.tmps[4]? = some (.pointer (some ⟨p4,0,none⟩)) → a.tmps[7]? = some (.pointer (some ⟨p7,0,none⟩)) → a.defers = [] →
   w1.heap[p7]? = some (.cells #[slV b0 np c0,slV b1 nt c1,strB baseB,sv,tv] 48 (0,0)) → w1.heap[p4]? = some (.cells #[.int .u8 kx,.int .u8 at_] 35 (0,0)) → p7 ≠ p4 → ¬ (p7 < M1.heap.size ∧ M1.frz p7) → ¬ (p4 < M1.heap.size ∧ M1.frz p4) →
   M.Le M1 → Grew w w1 → (∀ b,b < w.heap.size → w1.heap[b]? = w.heap[b]?) → w.heap.size ≤ p7 → w.heap.size ≤ p4 → oneV sv →
   CallOk Tryz.prog M1 29 [.agg #[slV b0 np c0,slV b1 nt c1]] (.int .i64 0) → X (slV b0 np c0) (slV b1 nt c1) M1 → HistR M1 (slV b0 np c0) (slV b1 nt c1) sv → TerrRaw M1 np z tv → restK.wp Tryz.prog QQ a w1) :
  Code.wp Tryz.prog ((sq1 (bodyOf Tryz.f3)).seq ((sq1 (sq2 (bodyOf Tryz.f3))).seq ((sq1 (sq2 (sq2 (bodyOf Tryz.f3)))).seq restK))) QQ { tmps := #[.agg #[.int .u8 k,.int .i8 s0,.int .i8 s1,.bool hf,ds,.int .i8 (hv 0),.int .i8 (hv 1),.int .i8 (hv 2),.int .i8 (hv 3),.int .i8 (hv 4),.int .i8 (hv 5),.bool half],.agg #[.int .u8 kx,.int .u8 at_],.int .u8 how] ++ Array.replicate (201 - 3) undef,defers := [] } w := by
 have K := Lib.hid hk; clear hk
 have F := Lib.hid hfit; clear hfit
 have HW := Lib.hid hw; clear hw
 have HM := Lib.hid hm; clear hm
 have HQ := Lib.hid hQ; clear hQ
 generalize restK = rest at *
 simp only [sq1,sq2,bodyOf,Tryz.f3,Option.getD_some,List.size_toArray,List.length_cons,List.length_nil,Nat.reduceAdd,Nat.reduceSub,Array.replicate_succ,Array.replicate_zero,List.push_toArray,List.append_toArray,List.nil_append,List.cons_append]
 go_wp2_with fail
 refine (K.out _ (On.alloc (On.alloc HW.out _) _)).mono ?_
 intro e w1 h1
 have hb := (h1.2.2 w.heap.size (by rw [two_size]; omega)).trans (two_0 _ _ _)
 have e1 := h1.1
 obtain ⟨c0,c1,c2,c3,c4,c5,c6,c7,c8,c9,c10,c11⟩ := box12 hb
 have HB := Lib.hid hb; clear hb
 have H1 := Lib.hid h1; clear h1
 subst e1
 go_wp2_with fail
 refine (F.out _).mono ?_
 intro e w2 h2
 have h12 := H1.out.then h2
 have hb2 := (h2.2.2 w.heap.size (by have := H1.out.2.1.size; rw [two_size] at this; omega)).trans HB.out
 have e2 := h2.1
 have H2 := Lib.hid h12; clear h12 h2
 clear c0 c1 c2 c3 c4 c5 c6 c7 c8 c9 c10 c11
 obtain ⟨c0,c1,c2,c3,c4,c5,c6,c7,c8,c9,c10,c11⟩ := box12 hb2
 clear hb2
 subst e2
 go_wp2_with fail
 refine (HM.out _ (H2.out.on (On.alloc (On.alloc HW.out _) _))).mono ?_
 rintro e w3 ⟨y,M1,rfl,hgr,hfr,hh,hle,hz,b0,d0,b1,d1,sv,tv,rfl,⟨sva,svn,svc,rfl⟩,hck,hX,hhist,b2,d2,rfl,hterr⟩
 clear c0 c1 c2 c3 c4 c5 c6 c7 c8 c9 c10 c11
 have HGR := Lib.hid hgr; clear hgr
 have HFR := Lib.hid hfr; clear hfr
 have HH := Lib.hid hh; clear hh
 have HLE := Lib.hid hle; clear hle
 have HZ := Lib.hid hz; clear hz
 have HCK := Lib.hid hck; clear hck
 have HX := Lib.hid hX; clear hX
 have HS := Lib.hid hhist; clear hhist
 have HT := Lib.hid hterr; clear hterr
 unfold slV strB
 go_wp2_with fail
 have hh := HH.out
 have hM1 : M1.heap.size = w3.heap.size := by rw [hh]
 have g2 := H2.out.2.1
 have g2s := g2.size
 rw [two_size] at g2s
 have g3s := HGR.out.size
 have hwo := HW.out.size
 refine HQ.out M1 b0 d0 b1 d1 (.slice sva svn svc) (slV b2 np d2) (w.heap.size + 1) w3.heap.size _ _ ?_ rfl rfl rfl rfl rfl ?_ ?_ (by omega) (by omega) (fun hz => ?_) HLE.out ?_ ?_ (by omega) (by omega) trivial HCK.out HX.out HS.out ⟨b2,d2,rfl,HT.out⟩
 ·exact On.alloc ⟨by omega,fun b hb _ => by rw [hh]⟩ _
 ·rw [alloc_heap,Array.getElem?_push,if_pos rfl]; rfl
 ·rw [same_alloc _ _ _ (by omega),HFR.out _ (by omega),H2.out.2.2 _ (by rw [two_size]; omega),two_1]
 ·rcases HZ.out _ hz.2 with ⟨h,_⟩ | ⟨h,_⟩ <;> omega
 ·exact (((grew_alloc _ _).trans (grew_alloc _ _)).trans g2).trans (HGR.out.trans (grew_alloc _ _))
 ·intro b hb
  rw [same_alloc _ _ b (by omega),HFR.out b (by omega),H2.out.2.2 b (by rw [two_size]; omega),two_old _ _ _ b hb]
end Go.Proofs.YteempkgmaohpnaaGreatDoor
namespace Go.Proofs.YteempkgmaohpnaaGreatDoor
open Go.RowKit Go Ev Klp
theorem box5 {w : World} {b t : Nat} {x0 x1 x2 x3 x4 : Value} (h : w.heap[b]? = some (.cells #[x0,x1,x2,x3,x4] t (0,0))) :
  w.cell? ⟨b,0,none⟩ = some x0 ∧ w.cell? ⟨b,1,none⟩ = some x1 ∧ w.cell? ⟨b,2,none⟩ = some x2 ∧ w.cell? ⟨b,3,none⟩ = some x3 ∧ w.cell? ⟨b,4,none⟩ = some x4 := by
 refine ⟨?_,?_,?_,?_,?_⟩ <;> (unfold World.cell?; simp only [h]; rfl)
theorem set_other (w : World) (a : Addr) (v : Value) (b : Nat) (h : b ≠ a.block) : (w.setCell a v).heap[b]? = w.heap[b]? := by
 unfold World.setCell
 simp only [Array.getElem?_modify]
 rw [if_neg (Ne.symm h)]
theorem set_size (w : World) (a : Addr) (v : Value) : (w.setCell a v).heap.size = w.heap.size := by
 unfold World.setCell
 simp
theorem setc_same (w : World) (b off : Nat) (v : Value) {cs : Array Value} {t : Nat} {fr : Nat × Nat} (h : w.heap[b]? = some (.cells cs t fr)) : (w.setCell ⟨b,off,none⟩ v).heap[b]? = some (.cells (cs.setIfInBounds off v) t fr) := by
 unfold World.setCell
 simp only [Array.getElem?_modify]
 rw [if_pos trivial,h]
 rfl
theorem grew_set (w : World) (a : Addr) (v : Value) : Grew w (w.setCell a v) := ⟨rfl,rfl,rfl,Nat.le_of_eq (set_size w a v).symm⟩
theorem box2 {w : World} {b t : Nat} {x0 x1 : Value} (h : w.heap[b]? = some (.cells #[x0,x1] t (0,0))) : w.cell? ⟨b,0,none⟩ = some x0 ∧ w.cell? ⟨b,1,none⟩ = some x1 := by
 refine ⟨?_,?_⟩ <;> (unfold World.cell?; simp only [h]; rfl)
set_option maxHeartbeats 1000000 in
set_option maxRecDepth 4000 in
theorem zero_wp {M : Mem} {k s0 s1 : Int} {hf half : Bool} {ds : Value} {hv : Nat → Int} {kx at_ how : Int} {w : World} (hw : M.On w) (hk : ∀ w,M.On w → Calls Tryz.prog 4 #[] w (QuietP (.bool true) w))
  (hfit : ∀ w,Calls Tryz.prog 5 #[planR k s0 s1 hf half ds hv] w (QuietP (.bool true) w)) {np nt : Nat} {X : Value → Value → Mem → Prop} (hX : ∀ m0 m1 M M',M.Le M' → X m0 m1 M → X m0 m1 M') {z : Nat → Int} (hm : ∀ w,M.On w → Calls Tryz.prog 6 #[planR k s0 s1 hf half ds hv] w (RetM M w (Post34 np nt X z)))
  (h0 : how.tmod 4 = 0) (hcl : ∀ (M1 : Mem) (tv : Value) (w : World),M.Le M1 → TerrRaw M1 np z tv → M1.On w → Calls Tryz.prog 7 #[tv] w (RetM M1 w fun y M' => TextsAt M' 0 np (htsR np z) y))
  (hch : ∀ (M1 : Mem) (b0 c0 b1 c1 : Nat) (sv : Value) (w : World),M.Le M1 → M1.On w → CallOk Tryz.prog M1 29 [.agg #[slV b0 np c0,slV b1 nt c1]] (.int .i64 0) → X (slV b0 np c0) (slV b1 nt c1) M1 → HistR M1 (slV b0 np c0) (slV b1 nt c1) sv →
   Calls Tryz.prog 8 #[.agg #[slV b0 np c0,slV b1 nt c1,strB baseB,sv],.agg #[.int .u8 kx,.int .u8 at_]] w (RetM M1 w fun y M' => ∃ m1' bs' sv',y = .agg #[slV b0 np c0,m1',bs',sv'] ∧ (∃ a n c,m1' = Value.slice a n c) ∧ (∃ s,bs' = Value.string s) ∧ (∃ a n c,sv' = Value.slice a n c) ∧
    ∃ h : Int,(0 ≤ h ∧ h ≤ 40) ∧ CallOk Tryz.prog M' 9 [.agg #[slV b0 np c0,m1',bs',sv']] (.int .i64 h) ∧ (h = 0 → m1' = slV b1 nt c1)))
  {QQ : Exit → Act → World → Prop} (hQ : ∀ (M' : Mem) (b0 c0 b1 c1 : Nat) (m1' bs' sv' tv' : Value) (p7 : Nat) (a : Act) (w' : World),M'.On w' → a.tmps.size = 201 → a.tmps[7]? = some (.pointer (some ⟨p7,0,none⟩)) → a.defers = [] →
   w'.heap[p7]? = some (.cells #[slV b0 np c0,m1',bs',sv',tv'] 48 (0,0)) → ¬ (p7 < M'.heap.size ∧ M'.frz p7) → M.Le M' → Grew w w' → (∀ b,b < w.heap.size → w'.heap[b]? = w.heap[b]?) → w.heap.size ≤ p7 → oneV m1' → oneV bs' → oneV sv' → oneV tv' →
   CallOk Tryz.prog M' 29 [.agg #[slV b0 np c0,slV b1 nt c1]] (.int .i64 0) → (∃ h : Int,(0 ≤ h ∧ h ≤ 40) ∧ CallOk Tryz.prog M' 9 [.agg #[slV b0 np c0,m1',bs',sv']] (.int .i64 h) ∧ (h = 0 → m1' = slV b1 nt c1)) → TextsAt M' 0 np (htsR np z) tv' → X (slV b0 np c0) (slV b1 nt c1) M' → rest12.wp Tryz.prog QQ a w') :
  Code.wp Tryz.prog ((sq1 (bodyOf Tryz.f3)).seq ((sq1 (sq2 (bodyOf Tryz.f3))).seq ((sq1 (sq2 (sq2 (bodyOf Tryz.f3)))).seq (cloneK.seq (blkK.seq rest12))))) QQ { tmps := #[.agg #[.int .u8 k,.int .i8 s0,.int .i8 s1,.bool hf,ds,.int .i8 (hv 0),.int .i8 (hv 1),.int .i8 (hv 2),.int .i8 (hv 3),.int .i8 (hv 4),.int .i8 (hv 5),.bool half],.agg #[.int .u8 kx,.int .u8 at_],.int .u8 how] ++ Array.replicate (201 - 3) undef,defers := [] } w := by
 have K := Lib.hid hk; clear hk
 have F := Lib.hid hfit; clear hfit
 have HW := Lib.hid hw; clear hw
 have HM := Lib.hid hm; clear hm
 have HQ := Lib.hid hQ; clear hQ
 generalize rest12 = rest at *
 simp only [cloneK,blkK,restK,sq1,sq2,bodyOf,Tryz.f3,Option.getD_some,List.size_toArray,List.length_cons,List.length_nil,Nat.reduceAdd,Nat.reduceSub,Array.replicate_succ,Array.replicate_zero,List.push_toArray,List.append_toArray,List.nil_append,List.cons_append]
 go_wp2_with fail
 refine (K.out _ (On.alloc (On.alloc HW.out _) _)).mono ?_
 intro e w1 h1
 have hb := (h1.2.2 w.heap.size (by rw [two_size]; omega)).trans (two_0 _ _ _)
 have e1 := h1.1
 obtain ⟨c0,c1,c2,c3,c4,c5,c6,c7,c8,c9,c10,c11⟩ := box12 hb
 have HB := Lib.hid hb; clear hb
 have H1 := Lib.hid h1; clear h1
 subst e1
 go_wp2_with fail
 refine (F.out _).mono ?_
 intro e w2 h2
 have h12 := H1.out.then h2
 have hb2 := (h2.2.2 w.heap.size (by have := H1.out.2.1.size; rw [two_size] at this; omega)).trans HB.out
 have e2 := h2.1
 have H2 := Lib.hid h12; clear h12 h2
 clear c0 c1 c2 c3 c4 c5 c6 c7 c8 c9 c10 c11
 obtain ⟨c0,c1,c2,c3,c4,c5,c6,c7,c8,c9,c10,c11⟩ := box12 hb2
 clear hb2
 subst e2
 go_wp2_with fail
 refine (HM.out _ (H2.out.on (On.alloc (On.alloc HW.out _) _))).mono ?_
 rintro e w3 ⟨y,M1,rfl,hgr,hfr,hh,hle,hz,b0,d0,b1,d1,sv,tv,rfl,⟨sva,svn,svc,rfl⟩,hck,hX,hhist,b2,d2,rfl,hterr⟩
 clear c0 c1 c2 c3 c4 c5 c6 c7 c8 c9 c10 c11
 have HGR := Lib.hid hgr; clear hgr
 have HFR := Lib.hid hfr; clear hfr
 have HH := Lib.hid hh; clear hh
 have HLE := Lib.hid hle; clear hle
 have HZ := Lib.hid hz; clear hz
 have HCK := Lib.hid hck; clear hck
 have HX := Lib.hid hX; clear hX
 have HS := Lib.hid hhist; clear hhist
 have HT := Lib.hid hterr; clear hterr
 unfold slV strB
 go_wp2_with fail
 have hM1 : M1.heap.size = w3.heap.size := by rw [HH.out]
 have g2s := H2.out.2.1.size
 rw [two_size] at g2s
 have g3s := HGR.out.size
 have hon3 : M1.On w3 := ⟨by omega,fun b hb _ => by rw [HH.out]⟩
 have hs3 : w3.heap[w.heap.size + 1]? = some (.cells #[.int .u8 kx,.int .u8 at_] 35 (0,0)) := by
  rw [HFR.out _ (by omega),H2.out.2.2 _ (by rw [two_size]; omega),two_1]
 refine (hcl M1 _ _ HLE.out ⟨b2,d2,rfl,HT.out⟩ (On.alloc hon3 _)).mono ?_
 rintro e w4 ⟨y,M2,rfl,gr4,fr4,hh4,le4,zz4,htx⟩
 obtain ⟨b5,c5,rc5,t5,f5,rest5,rfl,q5⟩ := htx
 have hb4 := (fr4 w3.heap.size (by rw [alloc_heap,Array.size_push]; omega)).trans (show (w3.alloc _).heap[w3.heap.size]? = _ from by rw [alloc_heap,Array.getElem?_push,if_pos rfl])
 have hs4 := (fr4 (w.heap.size + 1) (by rw [alloc_heap,Array.size_push]; omega)).trans ((same_alloc _ _ _ (by omega)).trans hs3)
 have fz4 : w4.frozen? ⟨w3.heap.size,4,none⟩ = false := by unfold World.frozen?; simp only [hb4]; rfl
 have fz0 : w4.frozen? ⟨w3.heap.size,0,none⟩ = false := by unfold World.frozen?; simp only [hb4]; rfl
 obtain ⟨v0,v1,v2,v3,v4⟩ := box5 hb4
 obtain ⟨u0,u1⟩ := box2 hs4
 have GR4 := Lib.hid gr4; clear gr4
 have FR4 := Lib.hid fr4; clear fr4
 have HH4 := Lib.hid hh4; clear hh4
 have LE4 := Lib.hid le4; clear le4
 have FZ4 := Lib.hid zz4; clear zz4
 have Q5 := Lib.hid q5; clear q5
 have HB4 := Lib.hid hb4; clear hb4
 have HS4 := Lib.hid hs4; clear hs4 hs3
 go_wp2_with fail
 have hon4 : M2.On (w4.setCell ⟨w3.heap.size,4,none⟩ (.slice (some ⟨b5,0,none⟩) np c5)) := by
  have e4 : M2.heap.size = w4.heap.size := by rw [HH4.out]
  refine ⟨by rw [set_size]; omega,fun b hb hz => ?_⟩
  have hne : b ≠ w3.heap.size := by
   rintro rfl
   rcases FZ4.out _ hz with ⟨h,_⟩ | ⟨h,_⟩
   ·omega
   ·rw [alloc_heap,Array.size_push] at h; omega
  rw [set_other _ _ _ _ hne,HH4.out]
 have HO4 := Lib.hid hon4; clear hon4
 refine (hch M2 b0 d0 b1 d1 _ _ (HLE.out.trans LE4.out) HO4.out (HCK.out.le LE4.out) (hX _ _ _ _ LE4.out HX.out) (HS.out.le LE4.out)).mono ?_
 rintro e w6 ⟨y,M3,rfl,gr6,fr6,hh6,le6,zz6,m1',bs',sv',rfl,⟨ma,mn,mc,rfl⟩,⟨bt,rfl⟩,⟨ea,en,ec,rfl⟩,hhist⟩
 have sz4 : w3.heap.size < w4.heap.size := (Array.getElem?_eq_some_iff.1 HB4.out).1
 have hb6 : w6.heap[w3.heap.size]? = some (.cells #[.slice (some ⟨b0,0,none⟩) np d0,.slice (some ⟨b1,0,none⟩) nt d1,.string ⟨#[98,97,115,101]⟩,.slice sva svn svc,.slice (some ⟨b5,0,none⟩) np c5] 48 (0,0)) :=
  (fr6 _ (by rw [set_size]; exact sz4)).trans (setc_same w4 w3.heap.size 4 (.slice (some ⟨b5,0,none⟩) np c5) HB4.out)
 obtain ⟨y0,y1,y2,y3,y4⟩ := box5 hb6
 have fz6 : ∀ j,w6.frozen? ⟨w3.heap.size,j,none⟩ = false := fun j => by unfold World.frozen?; simp only [hb6]; rfl
 have fa := fz6 0
 have fb := fz6 1
 have fc := fz6 2
 have fd := fz6 3
 have HB6 := Lib.hid hb6; clear hb6
 have GR6 := Lib.hid gr6; clear gr6
 have FR6 := Lib.hid fr6; clear fr6
 have HH6 := Lib.hid hh6; clear hh6
 have LE6 := Lib.hid le6; clear le6
 have ZZ6 := Lib.hid zz6; clear zz6
 have HHI := Lib.hid hhist; clear hhist
 clear v0 v1 v2 v3 v4 u0 u1 fz4 fz0
 unfold slV
 go_wp2_with fail
 have sz6 : w3.heap.size < w6.heap.size := (Array.getElem?_eq_some_iff.1 HB6.out).1
 have f1 := setc_same w6 w3.heap.size 0 (.slice (some ⟨b0,0,none⟩) np d0) HB6.out
 have f2 := setc_same _ w3.heap.size 1 (.slice ma mn mc) f1
 have f3 := setc_same _ w3.heap.size 2 (.string bt) f2
 have f4 := setc_same _ w3.heap.size 3 (.slice ea en ec) f3
 have ne4 : ∀ b,b ≠ w3.heap.size → ((((w6.setCell ⟨w3.heap.size,0,none⟩ (.slice (some ⟨b0,0,none⟩) np d0)).setCell ⟨w3.heap.size,1,none⟩ (.slice ma mn mc)).setCell ⟨w3.heap.size,2,none⟩ (.string bt)).setCell ⟨w3.heap.size,3,none⟩ (.slice ea en ec)).heap[b]? = w6.heap[b]? := fun b hb => by
  rw [set_other _ _ _ _ hb,set_other _ _ _ _ hb,set_other _ _ _ _ hb,set_other _ _ _ _ hb]
 have frzP : ¬ M3.frz w3.heap.size := fun hz => by
  rcases ZZ6.out _ hz with ⟨_,h'⟩ | ⟨h,_⟩
  ·rcases FZ4.out _ h' with ⟨h,_⟩ | ⟨h,_⟩
   ·omega
   ·rw [alloc_heap,Array.size_push] at h; omega
  ·rw [set_size] at h; omega
 obtain ⟨q1,q2,q3,q4⟩ := Q5.out
 obtain ⟨z5,e5⟩ := LE6.out.same _ (Array.getElem?_eq_some_iff.1 q3).1 q2
 refine HQ.out M3 b0 d0 b1 d1 (.slice ma mn mc) (.string bt) (.slice ea en ec) (.slice (some ⟨b5,0,none⟩) np c5) w3.heap.size _ _ ?_ rfl rfl rfl f4 (fun h => frzP h.2) (HLE.out.trans (LE4.out.trans LE6.out)) ?_ (fun b hb => ?_) (by omega) trivial trivial trivial trivial ((HCK.out.le LE4.out).le LE6.out) HHI.out
  ⟨b5,c5,rc5,t5,f5,rest5,rfl,q1,z5,e5.trans q3,q4⟩ (hX _ _ _ _ LE6.out (hX _ _ _ _ LE4.out HX.out))
 ·refine ⟨?_,fun b hb hz => ?_⟩
  ·rw [set_size,set_size,set_size,set_size,HH6.out]; exact Nat.le_refl _
  ·rw [ne4 b (fun e => frzP (e ▸ hz)),HH6.out]
 ·exact ((((((grew_alloc _ _).trans (grew_alloc _ _)).trans H2.out.2.1).trans (HGR.out.trans (grew_alloc _ _))).trans (GR4.out.trans (grew_set _ _ _))).trans GR6.out).trans ((((grew_set _ _ _).trans (grew_set _ _ _)).trans (grew_set _ _ _)).trans (grew_set _ _ _))
 ·rw [ne4 b (by omega),FR6.out b (by rw [set_size]; omega),set_other _ _ _ _ (show b ≠ w3.heap.size by omega),FR4.out b (by rw [alloc_heap,Array.size_push]; omega),same_alloc _ _ b (by omega),HFR.out b (by omega),H2.out.2.2 b (by rw [two_size]; omega),two_old _ _ _ b hb]
end Go.Proofs.YteempkgmaohpnaaGreatDoor
