/-
  klippe/event.Check on events with a change: another kind, another name, a unit of a dike.
-/
import Derived.Test.YtdkafeammgaknaaGreatDoorDealR
import Derived.Test.YtdkafeammgaknaaGreatDoorEvMemo
set_option linter.unusedSectionVars false
set_option linter.unusedVariables false
set_option linter.unusedSimpArgs false
namespace Go.Proofs.YtdkafeammgaknaaGreatDoor
open Go Ev Klp
def chgs (kind : Nat) : List (Nat × V × Int) :=
 ((List.range 5).filter fun i => !Nat.beq (i + 1) kind).map (fun i => (0,.int .i64 (Int.ofNat (i + 1)),7)) ++ [(1,.str [102,105,110,101],0),(24,.str [122],cond (Nat.beq kind 4) 0 7)]
def vOf : V → Value
 | .int k n => .int k n
 | .str s => strB s
 | _ => .nilFunc
theorem chgs_plain {kind : Nat} {c : Nat × V × Int} (h : c ∈ chgs kind) : (∃ n,c.2.1 = .int .i64 n) ∨ ∃ s,c.2.1 = .str s := by
 rcases List.mem_append.1 h with h | h
 ·obtain ⟨i,_,rfl⟩ := List.mem_map.1 h
  exact .inl ⟨_,rfl⟩
 ·simp only [List.mem_cons,List.not_mem_nil,or_false] at h
  rcases h with rfl | rfl <;> exact .inr ⟨_,rfl⟩
theorem vOf_ok {E : Env} {kind : Nat} {c : Nat × V × Int} (h : c ∈ chgs kind) : VR E c.2.1 (vOf c.2.1) := by
 rcases chgs_plain h with ⟨n,e⟩ | ⟨s,e⟩ <;> rw [e] <;> rfl
theorem chgs_ren {kind : Nat} {c : Nat × V × Int} (h : c ∈ chgs kind) (r : Nat → Nat) : renV r c.2.1 = c.2.1 := by
 rcases chgs_plain h with ⟨n,e⟩ | ⟨s,e⟩ <;> rw [e] <;> rfl
theorem VRL_set {E : Env} : ∀ {vs : List V} {xs : List Value} (i : Nat) {v : V} {x : Value},VRL E vs xs → VR E v x → VRL E (vs.set i v) (xs.set i x)
 | [],xs,i,v,x,h,_ => by rw [show xs = [] from h]; simp; rfl
 | u :: vs,xs,0,v,x,⟨y,ys,e,hy,hs⟩,hv => by rw [e]; exact ⟨x,ys,rfl,hv,hs⟩
 | u :: vs,xs,i + 1,v,x,⟨y,ys,e,hy,hs⟩,hv => by rw [e]; exact ⟨y,ys.set i x,rfl,hy,VRL_set i hs hv⟩
theorem renL_set {r : Nat → Nat} : ∀ (l : List V) (i : Nat) {v : V},renV r v = v → renL r (l.set i v) = (renL r l).set i v
 | [],i,v,h => by simp [renL]
 | u :: l,0,v,h => by simp [renL,h]
 | u :: l,i + 1,v,h => by simp [renL,renL_set l i h]
theorem nmL_set {k : Nat} : ∀ (l : List V) (i : Nat) {v : V},nmV k v = true → nmL k l = true → nmL k (l.set i v) = true
 | [],i,v,h,hl => by simpa using hl
 | u :: l,0,v,h,hl => by
  simp only [nmL,Bool.and_eq_true] at hl
  simp [nmL,h,hl.2]
 | u :: l,i + 1,v,h,hl => by
  simp only [nmL,Bool.and_eq_true] at hl
  simp [nmL,hl.1,nmL_set l i h hl.2]
noncomputable def okChg (d : DealT) (fs : Facts) (t : TabsR) : Bool := match d.pv with
 | .agg cs => (chgs d.kind).all fun c => memoOk (kitD d fs t (glD 32 (cellsD d))).tab 10000 60 29 [mD,renV fz (.agg (cs.set c.1 c.2.1))] (.int .i64 c.2.2)
 | _ => false
noncomputable def okChgs (d : DealT) : List Facts → List TabsR → Bool
 | [],[] => true
 | f :: fs,t :: ts => okChg d f t && okChgs d fs ts
 | _,_ => false
noncomputable def DealT.okX (d : DealT) : Bool := okChgs d (fsAll d.kind) d.cs
theorem okChgs_mem {d : DealT} : ∀ {fs : List Facts} {ts : List TabsR},okCs d fs ts = true → okChgs d fs ts = true → ∀ f ∈ fs,∃ t,okC d f t = true ∧ okChg d f t = true
 | [],_,_,_,f,hf => by cases hf
 | _ :: _,[],h,_,_,_ => by cases h
 | g :: fs,t :: ts,h,h',f,hf => by
  simp only [okCs,okChgs,Bool.and_eq_true] at h h'
  rcases List.mem_cons.1 hf with rfl | hf
  ·exact ⟨t,h.1,h'.1⟩
  ·exact okChgs_mem h.2 h'.2 f hf
section
variable {w0 : Base} {d : DealT} {dd : Nat → Int} {m0 m1 : Value} (HD : DealIn w0 d dd m0 m1) (ho : d.ok = true) (hx : d.okX = true)
include HD ho hx
theorem chg_fz {cs : List (List V)} (hcs : subCells d.ps = some cs) {pc : List V} (hpv : d.pv = .agg pc) {c : Nat × V × Int} (hc : c ∈ chgs d.kind) : FzOk Tryz.prog w0 29 [mD,.agg (pc.set c.1 c.2.1)] cs (.int .i64 c.2.2) := by
 simp only [DealT.ok,Bool.and_eq_true] at ho
 obtain ⟨⟨⟨h1,h2⟩,h3⟩,h4⟩ := ho
 intro w1 hs g1 hl
 have H1 := HD.le hs g1
 obtain ⟨fs,hfs,hf⟩ := fsAll_ok dd d.kind
 obtain ⟨t,ht,ht2⟩ := okChgs_mem h2 hx fs hfs
 simp only [okC,Bool.and_eq_true] at ht
 have hgl : ∀ n c,(n,c) ∈ glD 32 (cellsD d) → Lies w1 n c := by
  have key : ∀ (l : List (List V)) (k : Nat),(∀ j c,l[j]? = some c → Lies w1 (k + j) (renL fz c)) → ∀ n c,(n,c) ∈ glD k l → Lies w1 n c := by
   intro l
   induction l with
   | nil => intro k _ n c hm; cases hm
   | cons x l ih =>
    intro k hk n c hm
    rcases List.mem_cons.1 hm with e | hm
    ·cases e; exact hk 0 x rfl
    ·exact ih (k + 1) (fun j c hj => by rw [show k + 1 + j = k + (j + 1) from by omega]; exact hk (j + 1) c (by simpa using hj)) n c hm
  unfold cellsD
  rw [hcs]
  exact key cs 32 hl
 simp only [okChg,hpv] at ht2
 exact Kit.run (H1.kit h3 hf hgl) ht.1 (List.all_eq_true.1 ht2 c hc)
theorem event_chg {E : Env} {h : H} {nx : Nat} {w : World} (hok : Ok w0 E h.get nx w) {ord : List Nat} {lv : List V} {ls : List Value} (hxl : VRL E lv ls)
  (hf : fits ord [mD,.agg lv] h nx [mD,d.pv] d.ps = true) : ∀ c ∈ chgs d.kind,CallOk Tryz.prog (memAt w0 E w ord) 29 [.agg #[m0,m1],.agg (ls.set c.1 (vOf c.2.1)).toArray] (.int .i64 c.2.2) := by
 intro c hc
 have hd' := ho
 simp only [DealT.ok,Bool.and_eq_true] at hd'
 have h4 := hd'.2
 simp only [okEv,Bool.and_eq_true] at h4
 obtain ⟨hp,h4⟩ := h4
 have hp' := hp
 simp only [patOk,Bool.and_eq_true] at hp'
 have hm : VR E mD (.agg #[m0,m1]) := mD_ok HD hok.sym
 cases hcs : subCells d.ps with
 | none => rw [hcs] at hp'; exact absurd hp'.2 (by simp)
 | some cs =>
  split at h4
  ·rename_i pc hpv
   have hfits : fits ord [mD,.agg (lv.set c.1 c.2.1)] h nx [mD,.agg (pc.set c.1 c.2.1)] d.ps = true := by
    simp only [fits,Bool.and_eq_true] at hf ⊢
    refine ⟨⟨?_,hf.1.2⟩,hf.2⟩
    have f1 := V.eqL_eq _ _ hf.1.1
    rw [hpv] at f1
    simp only [renL,renV,List.cons.injEq,V.agg.injEq,and_true] at f1
    have e : renL (invN ord ord.length nx) [mD,.agg (pc.set c.1 c.2.1)] = [mD,.agg (lv.set c.1 c.2.1)] := by
     simp only [renL,renV,List.cons.injEq,V.agg.injEq,and_true]
     exact ⟨f1.1,by rw [renL_set _ _ (chgs_ren hc _),f1.2]⟩
    rw [e]
    exact V.eqL_refl _
   have hpat : patOk [mD,.agg (pc.set c.1 c.2.1)] d.ps = true := by
    simp only [patOk,Bool.and_eq_true]
    refine ⟨?_,hp'.2⟩
    have h1 := hp'.1
    rw [hpv] at h1
    simp only [nmL,nmV,Bool.and_eq_true,and_true] at h1 ⊢
    refine ⟨h1.1,nmL_set _ _ ?_ h1.2⟩
    rcases chgs_plain hc with ⟨n,e⟩ | ⟨s,e⟩ <;> rw [e] <;> rfl
   exact callOk_of_fits (xs := [.agg #[m0,m1],.agg (ls.set c.1 (vOf c.2.1)).toArray]) hok (VRL.cons hm (VRL.cons (show VR E (.agg _) (.agg _) from ⟨_,VRL_set c.1 hxl (vOf_ok hc),rfl⟩) VRL.nil)) hfits hpat hcs (chg_fz HD ho hx hcs hpv hc) (fun E' _ => rfl)
  ·cases h4
end
def cellO (nm : Option (List UInt8)) (l : Nat) : V := match l,nm with
 | 1,some s => .str s
 | l,_ => .sym l
def cellsO (nm : Option (List UInt8)) : List V := (List.range 32).map (cellO nm)
noncomputable def cxO (b : Iv) (fs : Facts) : CX := ⟨T.ofList .e 0 (.int .i64 (P0 0) :: (List.range 33).map fun j => .opq (j + 1)),T.ofList .e 0 [b],fs,[],[]⟩
def mO : V := .agg [.sym 32,.sym 33]
noncomputable def kitO (b : Iv) (fs : Facts) : Kit := ⟨cxO b fs,[],[],.e,tmk [(27,[([mO],.int .i64 0)])],.e,.e,⟨[],[],[]⟩⟩
def i64R : Iv := (-9223372036854775808,9223372036854775807)
def fsKL : Facts := [([([0],1),([],-1)],⟨true,false,false⟩)]
def fsKH : Facts := [([([0],1),([],-1)],⟨false,false,true⟩),([([0],1),([],-5)],⟨false,false,true⟩)]
theorem runKL : memoOk (kitO i64R fsKL).tab 10000 60 29 [mO,.agg (cellsO none)] (.int .i64 12) = true := by kernel_rfl
theorem runKH : memoOk (kitO i64R fsKH).tab 10000 60 29 [mO,.agg (cellsO none)] (.int .i64 12) = true := by kernel_rfl
theorem runNm0 : memoOk (kitO (1,5) []).tab 10000 60 29 [mO,.agg (cellsO (some []))] (.int .i64 8) = true := by kernel_rfl
theorem runNm1 : memoOk (kitO (1,5) []).tab 10000 60 29 [mO,.agg (cellsO (some [57]))] (.int .i64 8) = true := by kernel_rfl
theorem runNm2 : memoOk (kitO (1,5) []).tab 10000 60 29 [mO,.agg (cellsO (some [120,45]))] (.int .i64 8) = true := by kernel_rfl
theorem event_any {M : Mem} (hg : Good M) {m0 m1 : Value} (hm0 : oneV m0) (hm1 : oneV m1) (hm : CallOk Tryz.prog M 27 [.agg #[m0,m1]] (.int .i64 0)) {ls : List Value} (hl : ls.length = 32) (h1 : ∀ x ∈ ls,oneV x) {z : Int} (h0 : ls[0]? = some (.int .i64 z))
  {nm : Option (List UInt8)} (hn : ∀ s,nm = some s → ls[1]? = some (strB s)) {b : Iv} {fs : Facts} {e : Int} (hb : b.has z) (hfs : FactsHold (fun v => if v = 0 then z else 0) fs) (hrun : memoOk (kitO b fs).tab 10000 60 29 [mO,.agg (cellsO nm)] (.int .i64 e) = true) :
  CallOk Tryz.prog M 29 [.agg #[m0,m1],.agg ls.toArray] (.int .i64 e) := by
 let x : Nat → Int := fun v => if v = 0 then z else 0
 let o : Nat → Value := fun j => if j < 32 then (ls[j]?).getD .nilFunc else if j = 32 then m0 else if j = 33 then m1 else .nilFunc
 have oo : ∀ j,oneV (o j) := fun j => by
  show oneV (if j < 32 then _ else _)
  split
  ·cases h : ls[j]? with
   | none => trivial
   | some y => exact h1 y (List.mem_of_getElem? h)
  ·split
   ·exact hm0
   ·split
    ·exact hm1
    ·trivial
 let w0 : Base := { toMem := M,sym := symX x o (cxO b fs).tab }
 have hone : ∀ i,oneV (w0.sym i) := fun i => symX_one oo i
 have get0 : (cxO b fs).tab.get 0 = some (.int .i64 (P0 0)) := by
  show (T.ofList .e 0 _).get 0 = _
  rw [T.get_ofList]; rfl
 have getS : ∀ j,1 ≤ j → j < 34 → (cxO b fs).tab.get j = some (.opq j) := fun j h2 h3 => by
  show (T.ofList .e 0 _).get j = _
  rw [T.get_ofList,if_pos ⟨Nat.zero_le _,by simp; omega⟩]
  obtain ⟨k,rfl⟩ : ∃ k,j = k + 1 := ⟨j - 1,by omega⟩
  simp [List.getElem?_range (show k < 33 by omega)]
 have s0 : w0.sym 0 = .int .i64 z := by
  show symX x o (cxO b fs).tab 0 = _
  unfold symX
  rw [get0]
  simp only [ev_P0]; rfl
 have sj : ∀ j,1 ≤ j → j < 34 → w0.sym j = o j := fun j h2 h3 => by
  show symX x o (cxO b fs).tab j = _
  unfold symX
  rw [getS j h2 h3]
 have hC : CXOk w0 x o (cxO b fs) := by
  refine ⟨fun _ _ _ => rfl,fun v => ?_,hfs,(fun r hr => by cases hr),(fun p hp => by cases hp),oo,hg.pow _ _,hg.tabs⟩
  show (((T.ofList .e 0 [b]).get v).getD (0,0)).has (x v)
  rw [T.get_ofList]
  by_cases hv : v = 0
  ·subst hv
   simpa [x] using hb
  ·rw [if_neg (by simp; omega),T.get_e]
   show Iv.has (0,0) (if v = 0 then z else 0)
   rw [if_neg hv]
   exact ⟨Int.le_refl _,Int.le_refl _⟩
 have hmO : ∀ E,StatOk w0 E → VR E mO (.agg #[m0,m1]) := fun E hE => by
  refine ⟨[m0,m1],VRL.cons ?_ (VRL.cons ?_ VRL.nil),rfl⟩
  ·show m0 = E.sym 32
   rw [hE.sym,sj 32 (by omega) (by omega)]; rfl
  ·show m1 = E.sym 33
   rw [hE.sym,sj 33 (by omega) (by omega)]; rfl
 have hK : KitOk w0 x o (kitO b fs) := by
  refine ⟨hC,fun f args v hv => tmk_prim (l := [(27,[([mO],.int .i64 0)])]) ?_ hv,(fun f es he => by simp [kitO,T.get_e] at he),(fun n cs hn => by simp [kitO,T.get_e] at hn),(fun p hp => by cases hp),(fun p hp => by cases hp),(fun p hp => by cases hp)⟩
  intro q hq p hp
  rw [List.mem_singleton.1 hq] at hp ⊢
  rw [List.mem_singleton.1 hp]
  exact hm.contract (Mem.Le.refl _) (fun E hE => VRL.cons (hmO E hE) VRL.nil) (fun E hE => rfl)
 have hE0 : StatOk w0 (baseE w0 hone) := base_stat
 refine (Kit.run hK (show (kitO b fs).chk = true from rfl) hrun).callOk hE0 (VRL.cons (hmO _ hE0) (VRL.cons ⟨ls,VRL.of_get (by simp [cellsO,hl]) (fun l v y h2 h3 => ?_),rfl⟩ VRL.nil)) rfl
 have hlt : l < 32 := by
  have := (List.getElem?_eq_some_iff.1 h3).1
  rw [hl] at this; exact this
 have hv : v = cellO nm l := by
  simp only [cellsO,List.getElem?_map,List.getElem?_range hlt,Option.map_some,Option.some.injEq] at h2
  exact h2.symm
 by_cases c0 : l = 0
 ·subst c0
  rw [h0] at h3; cases h3
  have hv : v = .sym 0 := by rw [hv]; cases nm <;> rfl
  rw [hv]
  exact s0.symm
 ·have other : v = .sym l → VR (baseE w0 hone) v y := fun e => by
   rw [e]
   show y = w0.sym l
   rw [sj l (by omega) (by omega)]
   show y = if l < 32 then (ls[l]?).getD .nilFunc else _
   rw [if_pos hlt,h3]; rfl
  by_cases c1 : l = 1
  ·subst c1
   cases hnm : nm with
   | none => exact other (by rw [hv,hnm]; rfl)
   | some s =>
    rw [hv,hnm]
    have := hn s hnm
    rw [h3] at this; cases this
    rfl
  ·refine other ?_
   rw [hv]
   unfold cellO
   split
   ·exact absurd rfl c1
   ·rfl
end Go.Proofs.YtdkafeammgaknaaGreatDoor
