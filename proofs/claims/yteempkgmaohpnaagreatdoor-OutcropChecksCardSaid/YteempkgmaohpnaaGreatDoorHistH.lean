/-
  A history that is right, with its events.
-/
import Derived.Test.YteempkgmaohpnaaGreatDoorChgX
import Derived.Test.YteempkgmaohpnaaGreatDoorChgE
import Derived.Test.YteempkgmaohpnaaGreatDoorHistK
import Derived.Test.YteempkgmaohpnaaGreatDoorHistT
set_option linter.unusedSectionVars false
set_option linter.unusedVariables false
set_option linter.unusedSimpArgs false
namespace Go.Proofs.YteempkgmaohpnaaGreatDoor
open Go Ev Klp
structure EvIn (M : Mem) (m : Value) (e sh : Nat) (ls : List Value) : Prop where
 raw : EvRaw M m e sh ls
 few : sh < 7
 chg : ∀ c ∈ chgs (shKind sh),CallOk Tryz.prog M 31 [m,.agg (ls.set c.1 (vOf c.2.1)).toArray] (.int .i64 c.2.2)
theorem EvIn.le {M M' : Mem} (hl : M.Le M') {m : Value} {e sh : Nat} {ls : List Value} (h : EvIn M m e sh ls) : EvIn M' m e sh ls := ⟨h.raw.le hl,h.few,fun c hc => (h.chg c hc).le hl⟩
def EvsIn (M : Mem) (m : Value) (sv : Value) : Prop := ∃ evs : List (Nat × List Value),evs.length ≤ 2 ∧ EvsRaw M evs sv ∧ ∀ (k : Nat) (p : Nat × List Value),evs[k]? = some p → EvIn M m k p.1 p.2
theorem EvsRaw.le {M M' : Mem} (hl : M.Le M') {evs : List (Nat × List Value)} {sv : Value} (h : EvsRaw M evs sv) : EvsRaw M' evs sv := by
 rcases h with h | ⟨h0,b,c,rc,t,fr,rest,g1,g2,z,g3,g4⟩
 ·exact .inl h
 ·obtain ⟨z',e'⟩ := hl.same b (Array.getElem?_eq_some_iff.1 g3).1 z
  exact .inr ⟨h0,b,c,rc,t,fr,rest,g1,g2,z',e'.trans g3,g4⟩
theorem EvsIn.le {M M' : Mem} (hl : M.Le M') {m sv : Value} (h : EvsIn M m sv) : EvsIn M' m sv := by
 obtain ⟨evs,h1,h2,h3⟩ := h
 exact ⟨evs,h1,h2.le hl,fun k p hk => (h3 k p hk).le hl⟩
def EvL (M : Mem) (m : Value) : List Item → List (List Value) → Prop
 | [],[] => True
 | t :: its,ls :: lss => EvC M m t ls ∧ EvL M m its lss
 | _,_ => False
theorem EvL.len {M : Mem} {m : Value} : ∀ {its : List Item} {lss : List (List Value)},EvL M m its lss → its.length = lss.length
 | [],[],_ => rfl
 | [],_ :: _,h => h.elim
 | _ :: _,[],h => h.elim
 | _ :: _,_ :: _,h => by simp [EvL.len h.2]
theorem EvL.get {M : Mem} {m : Value} : ∀ {its : List Item} {lss : List (List Value)},EvL M m its lss → ∀ (k : Nat) (t : Item) (ls : List Value),its[k]? = some t → lss[k]? = some ls → EvC M m t ls
 | [],[],_,k,t,ls,h,_ => by simp at h
 | [],_ :: _,h,_,_,_,_,_ => h.elim
 | _ :: _,[],h,_,_,_,_,_ => h.elim
 | a :: its,b :: lss,h,0,t,ls,h1,h2 => by simp at h1 h2; subst h1; subst h2; exact h.1
 | a :: its,b :: lss,h,k + 1,t,ls,h1,h2 => EvL.get h.2 k t ls (by simpa using h1) (by simpa using h2)
theorem EvL.append {M : Mem} {m : Value} : ∀ {its : List Item} {lss : List (List Value)} {its' : List Item} {lss' : List (List Value)},EvL M m its lss → EvL M m its' lss' → EvL M m (its ++ its') (lss ++ lss')
 | [],[],_,_,_,h => h
 | [],_ :: _,_,_,h,_ => h.elim
 | _ :: _,[],_,_,h,_ => h.elim
 | _ :: _,_ :: _,_,_,h,h' => ⟨h.1,EvL.append h.2 h'⟩
theorem EvL.rep {M : Mem} {m : Value} {t : Item} {ls : List Value} (h : EvC M m t ls) : ∀ n,EvL M m (List.replicate n t) (List.replicate n ls)
 | 0 => trivial
 | n + 1 => ⟨h,EvL.rep h n⟩
theorem allL_at {f : List Nat → Bool} (h : ∀ i,i < 8 → allL f i = true) : ∀ {l : List Nat},l.length ≤ 2 → (∀ a ∈ l,a < 7) → f l = true
 | [],_,_ => List.all_eq_true.1 (h 0 (by omega)) [] (List.mem_cons_self ..)
 | [a],_,ha => List.all_eq_true.1 (h 0 (by omega)) [a] (List.mem_cons_of_mem _ (List.mem_map.2 ⟨a,List.mem_range.2 (ha a (by simp)),rfl⟩))
 | [a,b],_,ha => List.all_eq_true.1 (h (a + 1) (by have := ha a (by simp); omega)) [a,b] (List.mem_map.2 ⟨b,List.mem_range.2 (ha b (by simp)),rfl⟩)
 | _ :: _ :: _ :: _,h,_ => absurd h (by simp)
theorem set_same {α : Type} {l : List α} {i : Nat} {v : α} (h : l[i]? = some v) : l.set i v = l := by
 apply List.ext_getElem?
 intro j
 rw [List.getElem?_set]
 by_cases hij : i = j
 ·subst hij
  rw [if_pos rfl,if_pos (List.getElem?_eq_some_iff.1 h).1,h]
 ·rw [if_neg hij]
theorem runTilt : memoOk (kitO (0,0) []).tab 10000 60 31 [mO,.agg tiltG] (.int .i64 0) = true := by kernel_rfl
section
variable {M : Mem} (hg : Good M) {m0 m1 : Value} (hm0 : oneV m0) (hm1 : oneV m1) (hm : CallOk Tryz.prog M 29 [.agg #[m0,m1]] (.int .i64 0))
include hg hm0 hm1 hm
theorem hist_l {its : List Item} {lss : List (List Value)} (h : EvL M (.agg #[m0,m1]) its lss) (h12 : its.length ≤ 12) {sv : Value} (hs : EvsC M lss sv) {bs : List UInt8} {z : Int} (hrun : runC bs its z = true) :
  CallOk Tryz.prog M 9 [.agg #[m0,m1,strB bs,sv]] (.int .i64 z) := hist_c hg hm0 hm1 hm h.len h12 h.get hs hrun
theorem tilt_c : EvC M (.agg #[m0,m1]) tiltI tiltR := by
 refine ⟨by simp [tiltR,tiltG],tilt_one,fun _ => rfl,fun h => absurd h (show ¬ (6 : Nat) < 3 by omega),fun _ _ => rfl,fun _ => rfl,fun z hz => ?_⟩
 cases hz
 let o : Nat → Value := fun j => if j = 32 then m0 else if j = 33 then m1 else .nilFunc
 have oo : ∀ j,oneV (o j) := fun j => by
  show oneV (if j = 32 then _ else _)
  split
  ·exact hm0
  ·split
   ·exact hm1
   ·trivial
 let w0 : Base := { toMem := M,sym := symX (fun _ => 0) o (cxO (0,0) []).tab }
 have hone : ∀ i,oneV (w0.sym i) := fun i => symX_one oo i
 have sj : ∀ j,1 ≤ j → j < 34 → w0.sym j = o j := fun j h2 h3 => by
  show symX _ o (T.ofList .e 0 _) j = o j
  unfold symX
  rw [T.get_ofList,if_pos ⟨Nat.zero_le _,by simp; omega⟩]
  obtain ⟨k,rfl⟩ : ∃ k,j = k + 1 := ⟨j - 1,by omega⟩
  simp [List.getElem?_range (show k < 33 by omega)]
 have hC : CXOk w0 (fun _ => 0) o (cxO (0,0) []) := by
  refine ⟨fun _ _ _ => rfl,fun v => ?_,(fun f hf => by cases hf),(fun r hr => by cases hr),(fun p hp => by cases hp),oo,hg.pow _ _,hg.tabs⟩
  show Iv.has (((T.ofList .e 0 [(0,0)] : T Iv).get v).getD (0,0)) 0
  rw [T.get_ofList]
  by_cases hv : v = 0
  ·subst hv
   exact ⟨Int.le_refl _,Int.le_refl _⟩
  ·rw [if_neg (by simp; omega),T.get_e]
   exact ⟨Int.le_refl _,Int.le_refl _⟩
 have hmO : ∀ E,StatOk w0 E → VR E mO (.agg #[m0,m1]) := fun E hE => by
  refine ⟨[m0,m1],VRL.cons ?_ (VRL.cons ?_ VRL.nil),rfl⟩
  ·show m0 = E.sym 32
   rw [hE.sym,sj 32 (by omega) (by omega)]; rfl
  ·show m1 = E.sym 33
   rw [hE.sym,sj 33 (by omega) (by omega)]; rfl
 have hK : KitOk w0 (fun _ => 0) o (kitO (0,0) []) := by
  refine ⟨hC,fun f args v hv => tmk_prim (l := [(29,[([mO],.int .i64 0)])]) ?_ hv,(fun f es he => by simp [kitO,T.get_e] at he),(fun n cs hn => by simp [kitO,T.get_e] at hn),(fun p hp => by cases hp),(fun p hp => by cases hp),(fun p hp => by cases hp)⟩
  intro q hq p hp
  rw [List.mem_singleton.1 hq] at hp ⊢
  rw [List.mem_singleton.1 hp]
  exact hm.contract (Mem.Le.refl _) (fun E hE => VRL.cons (hmO E hE) VRL.nil) (fun E hE => rfl)
 have hE0 : StatOk w0 (baseE w0 hone) := base_stat
 exact (Kit.run hK (show (kitO (0,0) []).chk = true from rfl) runTilt).callOk hE0 (VRL.cons (hmO _ hE0) (VRL.cons ⟨tiltR,tilt_vals _,rfl⟩ VRL.nil)) rfl
end
theorem one_set {ls : List Value} {i : Nat} {v : Value} (h : ∀ x ∈ ls,oneV x) (hv : oneV v) : ∀ x ∈ ls.set i v,oneV x := fun x hx => by
 rcases List.mem_or_eq_of_mem_set hx with h' | rfl
 ·exact h x h'
 ·exact hv
theorem bad_c {M : Mem} {m : Value} {z : Int} {ls : List Value} (hl : ls.length = 32) (h1 : ∀ x ∈ ls,oneV x) (h : CallOk Tryz.prog M 31 [m,.agg ls.toArray] (.int .i64 z)) : EvC M m (badI z) ls :=
 ⟨hl,h1,fun h => absurd rfl h,fun h => absurd h (show ¬ (8 : Nat) < 3 by omega),fun h => absurd rfl h,fun h => absurd rfl h,fun u hu => by cases hu; exact h⟩
theorem any_c {M : Mem} {m : Value} {ls : List Value} (hl : ls.length = 32) (h1 : ∀ x ∈ ls,oneV x) : EvC M m anyI ls :=
 ⟨hl,h1,fun h => absurd rfl h,fun h => absurd h (show ¬ (8 : Nat) < 3 by omega),fun h => absurd rfl h,fun h => absurd rfl h,fun u hu => by cases hu⟩
theorem EvIn.c {M : Mem} {m : Value} {e sh : Nat} {ls : List Value} (h : EvIn M m e sh ls) : EvC M m ⟨e,sh,some 0⟩ ls := h.raw.toC h.few
theorem EvIn.fine {M : Mem} {m : Value} {e sh : Nat} {ls : List Value} (h : EvIn M m e sh ls) : EvC M m ⟨e,sh,some 0⟩ (ls.set 1 (strB [102,105,110,101])) := by
 have hc := h.c
 have hk : ∀ j,j ≠ 1 → (ls.set 1 (strB [102,105,110,101]))[j]? = ls[j]? := fun j hj => by rw [List.getElem?_set,if_neg (Ne.symm hj)]
 refine ⟨by rw [List.length_set]; exact hc.len,one_set hc.one trivial,fun h8 => by rw [hk 0 (by omega)]; exact hc.kind h8,fun hs => by rw [hk 3 (by omega)]; exact hc.units hs,fun h8 hs => by rw [hk 3 (by omega)]; exact hc.nounits h8 hs,fun h8 => by rw [hk 24 (by omega)]; exact hc.dike h8,fun z hz => ?_⟩
 cases hz
 exact h.chg (1,.str [102,105,110,101],0) (List.mem_append_right _ (List.mem_cons_self ..))
theorem EvIn.unitz {M : Mem} {m : Value} {e : Nat} {ls : List Value} (h : EvIn M m e 5 ls) : EvC M m ⟨e,7,some 0⟩ (ls.set 24 (strB [122])) := by
 have hc := h.c
 have hk : ∀ j,j ≠ 24 → (ls.set 24 (strB [122]))[j]? = ls[j]? := fun j hj => by rw [List.getElem?_set,if_neg (Ne.symm hj)]
 refine ⟨by rw [List.length_set]; exact hc.len,one_set hc.one trivial,fun _ => by rw [hk 0 (by omega)]; exact hc.kind (show (5 : Nat) ≠ 8 by omega),fun hs => absurd hs (show ¬ (7 : Nat) < 3 by omega),
  fun _ _ => by rw [hk 3 (by omega)]; exact hc.nounits (show (5 : Nat) ≠ 8 by omega) (show ¬ (5 : Nat) < 3 by omega),fun _ => ?_,fun z hz => ?_⟩
 ·rw [List.getElem?_set,if_pos rfl,if_pos (by rw [hc.len]; omega)]; rfl
 ·cases hz
  exact h.chg (24,.str [122],cond (Nat.beq (shKind 5) 4) 0 7) (List.mem_append_right _ (List.mem_cons_of_mem _ (List.mem_cons_self ..)))
theorem EvIn.noz {M : Mem} {m : Value} {e sh : Nat} {ls : List Value} (h : EvIn M m e sh ls) (h5 : sh ≠ 5) : EvC M m (badI 7) (ls.set 24 (strB [122])) := by
 refine bad_c (by rw [List.length_set]; exact h.raw.len) (one_set h.raw.one trivial) ?_
 have hk : Nat.beq (shKind sh) 4 = false := by
  refine nbeq_false ?_
  have := h.few
  have : sh = 0 ∨ sh = 1 ∨ sh = 2 ∨ sh = 3 ∨ sh = 4 ∨ sh = 6 := by omega
  rcases this with rfl | rfl | rfl | rfl | rfl | rfl <;> decide
 have := h.chg (24,.str [122],cond (Nat.beq (shKind sh) 4) 0 7) (List.mem_append_right _ (List.mem_cons_of_mem _ (List.mem_cons_self ..)))
 rw [hk] at this
 exact this
theorem shKind_rg {sh : Nat} (h : sh < 7) : 1 ≤ shKind sh ∧ shKind sh ≤ 5 := by
 have : sh = 0 ∨ sh = 1 ∨ sh = 2 ∨ sh = 3 ∨ sh = 4 ∨ sh = 5 ∨ sh = 6 := by omega
 rcases this with rfl | rfl | rfl | rfl | rfl | rfl | rfl <;> decide
section
variable {M : Mem} (hg : Good M) {m0 m1 : Value} (hm0 : oneV m0) (hm1 : oneV m1) (hm : CallOk Tryz.prog M 29 [.agg #[m0,m1]] (.int .i64 0))
include hg hm0 hm1 hm
theorem EvIn.kindz {e sh : Nat} {ls : List Value} (h : EvIn M (.agg #[m0,m1]) e sh ls) {z : Int} (hz : -9223372036854775808 ≤ z ∧ z ≤ 9223372036854775807) : ls.set 0 (.int .i64 z) = ls ∨ ∃ u ∈ errsC,EvC M (.agg #[m0,m1]) (badI u) (ls.set 0 (.int .i64 z)) := by
 have hl : (ls.set 0 (.int .i64 z)).length = 32 := by rw [List.length_set]; exact h.raw.len
 have h1 : ∀ x ∈ ls.set 0 (.int .i64 z),oneV x := one_set h.raw.one trivial
 have h0 : (ls.set 0 (.int .i64 z))[0]? = some (.int .i64 z) := by rw [List.getElem?_set,if_pos rfl,if_pos (by rw [h.raw.len]; omega)]
 have fx : (fun v => if v = 0 then z else 0 : Nat → Int) 0 = z := rfl
 by_cases lo : z < 1
 ·refine .inr ⟨12,by simp [errsC],bad_c hl h1 (event_any hg hm0 hm1 hm hl h1 h0 (nm := none) (fun s hs => by cases hs) (b := i64R) hz (fs := fsKL) (fact_cons ?_ (fact_nil _)) runKL)⟩
  have : Poly.ev (fun v => if v = 0 then z else 0) [([0],1),([],-1)] = z - 1 := by
   show 1 * (z * 1) + (-1 * 1 + 0) = z - 1
   omega
  rw [this]
  exact ⟨fun _ => rfl,fun e => by omega,fun e => by omega⟩
 ·by_cases hi : 5 < z
  ·refine .inr ⟨12,by simp [errsC],bad_c hl h1 (event_any hg hm0 hm1 hm hl h1 h0 (nm := none) (fun s hs => by cases hs) (b := i64R) hz (fs := fsKH) (fact_cons ?_ (fact_cons ?_ (fact_nil _))) runKH)⟩
   ·have : Poly.ev (fun v => if v = 0 then z else 0) [([0],1),([],-1)] = z - 1 := by
     show 1 * (z * 1) + (-1 * 1 + 0) = z - 1
     omega
    rw [this]
    exact ⟨fun e => by omega,fun e => by omega,fun _ => rfl⟩
   ·have : Poly.ev (fun v => if v = 0 then z else 0) [([0],1),([],-5)] = z - 5 := by
     show 1 * (z * 1) + (-5 * 1 + 0) = z - 5
     omega
    rw [this]
    exact ⟨fun e => by omega,fun e => by omega,fun _ => rfl⟩
  ·obtain ⟨n,rfl⟩ : ∃ n : Nat,z = Int.ofNat (n + 1) := ⟨(z - 1).toNat,by simp; omega⟩
   have hn5 : n < 5 := by have : Int.ofNat (n + 1) = (n : Int) + 1 := rfl; omega
   by_cases hk : n + 1 = shKind sh
   ·left
    refine set_same ?_
    rw [h.raw.kind,hk]
   ·refine .inr ⟨7,by simp [errsC],bad_c hl h1 ?_⟩
    refine h.chg (0,.int .i64 (Int.ofNat (n + 1)),7) (List.mem_append_left _ (List.mem_map.2 ⟨n,List.mem_filter.2 ⟨List.mem_range.2 hn5,?_⟩,rfl⟩))
    rw [nbeq_false hk]; rfl
theorem EvIn.namez {e sh : Nat} {ls : List Value} (h : EvIn M (.agg #[m0,m1]) e sh ls) {nm : List UInt8} (hn : nm = [] ∨ nm = [57] ∨ nm = [120,45]) : EvC M (.agg #[m0,m1]) (badI 8) (ls.set 1 (strB nm)) := by
 have hl : (ls.set 1 (strB nm)).length = 32 := by rw [List.length_set]; exact h.raw.len
 have h1 : ∀ x ∈ ls.set 1 (strB nm),oneV x := one_set h.raw.one trivial
 have h0 : (ls.set 1 (strB nm))[0]? = some (.int .i64 (Int.ofNat (shKind sh))) := by rw [List.getElem?_set,if_neg (by omega)]; exact h.raw.kind
 have h1' : (ls.set 1 (strB nm))[1]? = some (strB nm) := by rw [List.getElem?_set,if_pos rfl,if_pos (by rw [h.raw.len]; omega)]
 have hk := shKind_rg h.few
 have hb : Iv.has (1,5) (Int.ofNat (shKind sh)) := ⟨Int.ofNat_le.2 hk.1,Int.ofNat_le.2 hk.2⟩
 refine bad_c hl h1 ?_
 rcases hn with rfl | rfl | rfl
 ·exact event_any hg hm0 hm1 hm hl h1 h0 (nm := some []) (fun s hs => by cases hs; exact h1') hb (fs := []) (fact_nil _) runNm0
 ·exact event_any hg hm0 hm1 hm hl h1 h0 (nm := some [57]) (fun s hs => by cases hs; exact h1') hb (fs := []) (fact_nil _) runNm1
 ·exact event_any hg hm0 hm1 hm hl h1 h0 (nm := some [120,45]) (fun s hs => by cases hs; exact h1') hb (fs := []) (fact_nil _) runNm2
end
end Go.Proofs.YteempkgmaohpnaaGreatDoor
namespace Go.Proofs.YteempkgmaohpnaaGreatDoor
open Go Ev Klp
theorem evs_l {M : Mem} {m : Value} : ∀ {evs : List (Nat × List Value)} {e : Nat},(∀ (k : Nat) (p : Nat × List Value),evs[k]? = some p → EvIn M m (e + k) p.1 p.2) → EvL M m (itemsOf e (evs.map (·.1))) (evs.map (·.2))
 | [],_,_ => trivial
 | p :: l,e,h => ⟨(h 0 p rfl).c,evs_l fun k q hk => by rw [show e + 1 + k = e + (k + 1) from by omega]; exact h (k + 1) q (by simpa using hk)⟩
theorem items_len : ∀ (l : List Nat) (e : Nat),(itemsOf e l).length = l.length
 | [],_ => rfl
 | _ :: l,e => by simp [itemsOf,items_len l]
theorem EvsC.one {M : Mem} {lss : List (List Value)} {sv : Value} (h : EvsC M lss sv) : oneV sv := by
 rcases h with ⟨_,rfl⟩ | ⟨_,_,_,_,_,_,_,rfl,_⟩ <;> trivial
theorem EvsC.len {M : Mem} {lss : List (List Value)} {sv : Value} (h : EvsC M lss sv) (h0 : lss ≠ []) : ∃ a c,sv = Value.slice a lss.length c := by
 rcases h with ⟨h,_⟩ | ⟨_,_,_,_,_,_,_,rfl,_⟩
 ·exact absurd h h0
 ·exact ⟨_,_,rfl⟩
section
variable {M : Mem} (hg : Good M) {m0 m1 : Value} (hm0 : oneV m0) (hm1 : oneV m1) (hm : CallOk Tryz.prog M 29 [.agg #[m0,m1]] (.int .i64 0))
 {evs : List (Nat × List Value)} (h2 : evs.length ≤ 2) (hin : ∀ (k : Nat) (p : Nat × List Value),evs[k]? = some p → EvIn M (.agg #[m0,m1]) k p.1 p.2)
include hg hm0 hm1 hm h2 hin
theorem shs_few : ∀ a ∈ evs.map (·.1),a < 7 := fun a ha => by
 obtain ⟨p,hp,rfl⟩ := List.mem_map.1 ha
 obtain ⟨k,hk⟩ := List.mem_iff_getElem?.1 hp
 exact (hin k p hk).few
theorem hist_plain {sv : Value} (hs : EvsC M (evs.map (·.2)) sv) : CallOk Tryz.prog M 9 [.agg #[m0,m1,strB b0,sv]] (.int .i64 0) :=
 hist_l hg hm0 hm1 hm (evs_l fun k p hk => by rw [Nat.zero_add]; exact hin k p hk) (by rw [items_len,List.length_map]; omega) hs (allL_at runC_plain (by rw [List.length_map]; exact h2) (shs_few hg hm0 hm1 hm h2 hin))
theorem hist_base {sv : Value} (hs : EvsC M (evs.map (·.2)) sv) {j : Nat} (hj : j < 5) : ∃ z : Int,CallOk Tryz.prog M 9 [.agg #[m0,m1,strB ((basesG[j]?).getD []),sv]] (.int .i64 z) ∧ 0 ≤ z ∧ z ≤ 40 := by
 have hL := evs_l (e := 0) fun k p hk => by rw [Nat.zero_add]; exact hin k p hk
 have hlen : (itemsOf 0 (evs.map (·.1))).length ≤ 12 := by rw [items_len,List.length_map]; omega
 have hmem := fun {f : List Nat → Bool} (h : ∀ i,i < 8 → allL f i = true) => allL_at h (l := evs.map (·.1)) (by rw [List.length_map]; exact h2) (shs_few hg hm0 hm1 hm h2 hin)
 have hq : ∀ bs ∈ ([[],[49],[97,32,98]] : List (List UInt8)),CallOk Tryz.prog M 9 [.agg #[m0,m1,strB bs,sv]] (.int .i64 8) := fun bs hbs =>
  hist_q hg hm0 hm1 hs.one hm (n := none) (fun k hk => by cases hk) (List.all_eq_true.1 runQ_b bs hbs)
 match j,hj with
 | 0,_ => exact ⟨8,hq [] (by simp),by omega,by omega⟩
 | 1,_ => exact ⟨8,hq [49] (by simp),by omega,by omega⟩
 | 2,_ => exact ⟨8,hq [97,32,98] (by simp),by omega,by omega⟩
 | 3,_ => exact ⟨_,hist_l hg hm0 hm1 hm hL hlen hs (hmem runC_A),by cases (Nat.blt (firstSh (evs.map (·.1))) 3) <;> simp,by cases (Nat.blt (firstSh (evs.map (·.1))) 3) <;> simp⟩
 | 4,_ => exact ⟨_,hist_l hg hm0 hm1 hm hL hlen hs (hmem runC_K),by cases (Nat.beq (firstSh (evs.map (·.1))) 5) <;> simp,by cases (Nat.beq (firstSh (evs.map (·.1))) 5) <;> simp⟩
 | n + 5,h => exact absurd h (by omega)
theorem hist_tilts {sv : Value} {j : Nat} (hj : j < 4) (hs : EvsC M (evs.map (·.2) ++ List.replicate (11 + j - evs.length) tiltR) sv) : ∃ z : Int,CallOk Tryz.prog M 9 [.agg #[m0,m1,strB b0,sv]] (.int .i64 z) ∧ 0 ≤ z ∧ z ≤ 40 := by
 have hL0 := evs_l (e := 0) fun k p hk => by rw [Nat.zero_add]; exact hin k p hk
 have hT : ∀ n,EvL M (.agg #[m0,m1]) (itemsOf 0 (evs.map (·.1)) ++ List.replicate n tiltI) (evs.map (·.2) ++ List.replicate n tiltR) := fun n => hL0.append (EvL.rep (tilt_c hg hm0 hm1 hm) n)
 have hmem := fun {f : List Nat → Bool} (h : ∀ i,i < 8 → allL f i = true) => allL_at h (l := evs.map (·.1)) (by rw [List.length_map]; exact h2) (shs_few hg hm0 hm1 hm h2 hin)
 have hlen : (evs.map (·.2) ++ List.replicate (11 + j - evs.length) tiltR).length = 11 + j := by simp; omega
 have hne : evs.map (·.2) ++ List.replicate (11 + j - evs.length) tiltR ≠ [] := fun h => by rw [h] at hlen; simp at hlen; omega
 have hsl := hs.len hne
 rw [hlen] at hsl
 have hl' := (hT (11 + j - evs.length)).len
 rw [hlen] at hl'
 rcases (by omega : j = 0 ∨ j = 1 ∨ j = 2 ∨ j = 3) with rfl | rfl | rfl | rfl
 ·have hr := hmem runC_t11
  rw [List.length_map] at hr
  exact ⟨0,hist_l hg hm0 hm1 hm (hT (11 - evs.length)) (Nat.le_trans (Nat.le_of_eq hl') (by omega)) hs hr,by omega,by omega⟩
 ·have hr := hmem runC_t12
  rw [List.length_map] at hr
  exact ⟨0,hist_l hg hm0 hm1 hm (hT (12 - evs.length)) (Nat.le_trans (Nat.le_of_eq hl') (by omega)) hs hr,by omega,by omega⟩
 ·exact ⟨4,hist_q hg hm0 hm1 hs.one hm (n := some 13) (fun k hk => by cases hk; exact hsl) runQ_13,by omega,by omega⟩
 ·exact ⟨4,hist_q hg hm0 hm1 hs.one hm (n := some 14) (fun k hk => by cases hk; exact hsl) runQ_14,by omega,by omega⟩
end
theorem dup_rg (a : Nat) : 0 ≤ dupSh a ∧ dupSh a ≤ 40 := by unfold dupSh; cases (Nat.blt a 3 || Nat.beq a 5) <;> simp
theorem hist_copy {M : Mem} (hg : Good M) {m0 m1 : Value} (hm0 : oneV m0) (hm1 : oneV m1) (hm : CallOk Tryz.prog M 29 [.agg #[m0,m1]] (.int .i64 0)) : ∀ {evs : List (Nat × List Value)} (h2 : evs.length ≤ 2)
  (hin : ∀ (k : Nat) (p : Nat × List Value),evs[k]? = some p → EvIn M (.agg #[m0,m1]) k p.1 p.2) {k : Nat} (hk : k < max1 evs.length) {sv : Value} (hs : EvsC M (evs.map (·.2) ++ ((evs.map (·.2)).drop k).take 1) sv),
  ∃ z : Int,CallOk Tryz.prog M 9 [.agg #[m0,m1,strB b0,sv]] (.int .i64 z) ∧ 0 ≤ z ∧ z ≤ 40
 | [],h2,hin,k,hk,sv,hs => ⟨0,hist_plain hg hm0 hm1 hm h2 hin (by simpa using hs),by omega,by omega⟩
 | [p],h2,hin,k,hk,sv,hs => by
  have hk : k < 1 := hk
  obtain rfl : k = 0 := by omega
  have hp := hin 0 p rfl
  exact ⟨_,hist_l hg hm0 hm1 hm (its := [⟨0,p.1,some 0⟩,⟨0,p.1,some 0⟩]) (lss := [p.2,p.2]) ⟨hp.c,hp.c,trivial⟩ (by simp) hs (List.all_eq_true.1 runC_d1 p.1 (List.mem_range.2 hp.few)),dup_rg _⟩
 | [p,q],h2,hin,k,hk,sv,hs => by
  have hk : k < 2 := hk
  have hp := hin 0 p rfl
  have hq := hin 1 q rfl
  rcases (by omega : k = 0 ∨ k = 1) with rfl | rfl
  ·exact ⟨_,hist_l hg hm0 hm1 hm (its := [⟨0,p.1,some 0⟩,⟨1,q.1,some 0⟩,⟨0,p.1,some 0⟩]) (lss := [p.2,q.2,p.2]) ⟨hp.c,hq.c,hp.c,trivial⟩ (by simp) hs (List.all_eq_true.1 (List.all_eq_true.1 runC_d20 p.1 (List.mem_range.2 hp.few)) q.1 (List.mem_range.2 hq.few)),dup_rg _⟩
  ·exact ⟨_,hist_l hg hm0 hm1 hm (its := [⟨0,p.1,some 0⟩,⟨1,q.1,some 0⟩,⟨1,q.1,some 0⟩]) (lss := [p.2,q.2,q.2]) ⟨hp.c,hq.c,hq.c,trivial⟩ (by simp) hs (List.all_eq_true.1 (List.all_eq_true.1 runC_d21 p.1 (List.mem_range.2 hp.few)) q.1 (List.mem_range.2 hq.few)),dup_rg _⟩
 | _ :: _ :: _ :: _,h2,_,_,_,_,_ => absurd h2 (by simp)
theorem errs_rg {u : Int} (h : u ∈ errsC) : 0 ≤ u ∧ u ≤ 40 := by
 simp only [errsC,List.mem_cons,List.not_mem_nil,or_false] at h
 rcases h with rfl | rfl | rfl <;> omega
theorem hist_set {M : Mem} (hg : Good M) {m0 m1 : Value} (hm0 : oneV m0) (hm1 : oneV m1) (hm : CallOk Tryz.prog M 29 [.agg #[m0,m1]] (.int .i64 0)) : ∀ {evs : List (Nat × List Value)} (h2 : evs.length ≤ 2)
  (hin : ∀ (k : Nat) (p : Nat × List Value),evs[k]? = some p → EvIn M (.agg #[m0,m1]) k p.1 p.2) {k : Nat} {p : Nat × List Value} (hk : evs[k]? = some p) {ls' : List Value} {it : Item} (hit : EvC M (.agg #[m0,m1]) it ls')
  (hc : it = ⟨k,p.1,some 0⟩ ∨ it = ⟨k,7,some 0⟩ ∨ ∃ u ∈ errsC,it = badI u) {sv : Value} (hs : EvsC M ((evs.map (·.2)).set k ls') sv),
  ∃ z : Int,CallOk Tryz.prog M 9 [.agg #[m0,m1,strB b0,sv]] (.int .i64 z) ∧ 0 ≤ z ∧ z ≤ 40
 | [],_,_,k,p,hk,_,_,_,_,_,_ => by simp at hk
 | [a],h2,hin,k,p,hk,ls',it,hit,hc,sv,hs => by
  match k,hk with
  | 0,hk =>
   cases hk
   have ha := hin 0 a rfl
   rcases hc with rfl | rfl | ⟨u,hu,rfl⟩
   ·exact ⟨0,hist_l hg hm0 hm1 hm (its := itemsOf 0 [a.1]) (lss := [ls']) ⟨hit,trivial⟩ (by simp [itemsOf]) hs (allL_at runC_plain (l := [a.1]) (by simp) (by simpa using ha.few)),by omega,by omega⟩
   ·exact ⟨0,hist_l hg hm0 hm1 hm (its := [⟨0,7,some 0⟩]) (lss := [ls']) ⟨hit,trivial⟩ (by simp) hs runC_z1,by omega,by omega⟩
   ·have hr := List.all_eq_true.1 runC_b1 u hu
    simp only [Bool.and_eq_true] at hr
    exact ⟨u,hist_l hg hm0 hm1 hm (its := [badI u]) (lss := [ls']) ⟨hit,trivial⟩ (by simp) hs hr.1,errs_rg hu⟩
  | k + 1,hk => simp at hk
 | [a,b],h2,hin,k,p,hk,ls',it,hit,hc,sv,hs => by
  have ha := hin 0 a rfl
  have hb := hin 1 b rfl
  have hmem := fun {f : List Nat → Bool} (h : ∀ i,i < 8 → allL f i = true) => allL_at h (l := [a.1,b.1]) (by simp) (by simpa using ⟨ha.few,hb.few⟩)
  match k,hk with
  | 0,hk =>
   cases hk
   rcases hc with rfl | rfl | ⟨u,hu,rfl⟩
   ·exact ⟨0,hist_l hg hm0 hm1 hm (its := itemsOf 0 [a.1,b.1]) (lss := [ls',b.2]) ⟨hit,hb.c,trivial⟩ (by simp [itemsOf]) hs (hmem runC_plain),by omega,by omega⟩
   ·exact ⟨0,hist_l hg hm0 hm1 hm (its := [⟨0,7,some 0⟩,⟨1,b.1,some 0⟩]) (lss := [ls',b.2]) ⟨hit,hb.c,trivial⟩ (by simp) hs (List.all_eq_true.1 runC_z20 b.1 (List.mem_range.2 hb.few)),by omega,by omega⟩
   ·have hr := List.all_eq_true.1 runC_b1 u hu
    simp only [Bool.and_eq_true] at hr
    exact ⟨u,hist_l hg hm0 hm1 hm (its := [badI u,anyI]) (lss := [ls',b.2]) ⟨hit,any_c hb.raw.len hb.raw.one,trivial⟩ (by simp) hs hr.2,errs_rg hu⟩
  | 1,hk =>
   cases hk
   rcases hc with rfl | rfl | ⟨u,hu,rfl⟩
   ·exact ⟨0,hist_l hg hm0 hm1 hm (its := itemsOf 0 [a.1,b.1]) (lss := [a.2,ls']) ⟨ha.c,hit,trivial⟩ (by simp [itemsOf]) hs (hmem runC_plain),by omega,by omega⟩
   ·exact ⟨0,hist_l hg hm0 hm1 hm (its := [⟨0,a.1,some 0⟩,⟨1,7,some 0⟩]) (lss := [a.2,ls']) ⟨ha.c,hit,trivial⟩ (by simp) hs (List.all_eq_true.1 runC_z21 a.1 (List.mem_range.2 ha.few)),by omega,by omega⟩
   ·exact ⟨u,hist_l hg hm0 hm1 hm (its := [⟨0,a.1,some 0⟩,badI u]) (lss := [a.2,ls']) ⟨ha.c,hit,trivial⟩ (by simp) hs (List.all_eq_true.1 (List.all_eq_true.1 runC_b2 u hu) a.1 (List.mem_range.2 ha.few)),errs_rg hu⟩
  | k + 2,hk => simp at hk
 | _ :: _ :: _ :: _,h2,_,_,_,_,_,_,_,_,_,_ => absurd h2 (by simp)
theorem setAt_nil {α : Type} (k i : Nat) (v : α) : setAt [] k i v = [] := by simp [setAt]
theorem setAt_map {evs : List (Nat × List Value)} {k : Nat} {p : Nat × List Value} (hk : evs[k]? = some p) (i : Nat) (v : Value) : setAt (evs.map (·.2)) k i v = (evs.map (·.2)).set k (p.2.set i v) := by
 unfold setAt
 rw [List.getElem?_map,hk]; rfl
theorem set_self {evs : List (Nat × List Value)} {k : Nat} {p : Nat × List Value} (hk : evs[k]? = some p) : (evs.map (·.2)).set k p.2 = evs.map (·.2) := set_same (by rw [List.getElem?_map,hk]; rfl)
theorem hist_changed {M : Mem} (hg : Good M) {m0 : Value} (hm0 : oneV m0) {b1 nt : Nat} (hm : CallOk Tryz.prog M 29 [.agg #[m0,slV b1 nt nt]] (.int .i64 0)) {evs : List (Nat × List Value)} (h2 : evs.length ≤ 2)
  (hin : ∀ (k : Nat) (p : Nat × List Value),evs[k]? = some p → EvIn M (.agg #[m0,slV b1 nt nt]) k p.1 p.2) {at_ : Int} (ha : 0 ≤ at_ ∧ at_ ≤ 255) {t : ChgT} (hn : t.n = evs.length) (hj : t.j < 8) (hj5 : t.j = 1 → t.j5 < 5) (hj4 : t.j = 3 ∨ t.j = 6 → t.j4 < 4) (hk : t.k < max1 evs.length)
  (hbad : t.j = 2 → ∃ z : Nat,z < 30 ∧ CallOk Tryz.prog M 29 [.agg #[m0,cutV b1 nt]] (.int .i64 (Int.ofNat (z + 1))))
  {sv : Value} (hs : EvsC M (expd t (evs.map (·.2)) tiltR (.int .i64 (at_ - 1)) (strB (nameG t)) (strB [122])) sv) :
  ∃ z : Int,CallOk Tryz.prog M 9 [.agg #[m0,cond (Nat.beq t.j 2) (cutV b1 nt) (slV b1 nt nt),strB (basG t),sv]] (.int .i64 z) ∧ (0 ≤ z ∧ z ≤ 40) ∧ (z = 0 → t.j ≠ 2) := by
 obtain ⟨n,nt',j,j5,j4,k⟩ := t
 simp only at hn hj hj5 hj4 hk hbad
 have hm1 : oneV (slV b1 nt nt) := trivial
 have plain : EvsC M (evs.map (·.2)) sv → ∃ z : Int,CallOk Tryz.prog M 9 [.agg #[m0,slV b1 nt nt,strB b0,sv]] (.int .i64 z) ∧ 0 ≤ z ∧ z ≤ 40 := fun h => ⟨0,hist_plain hg hm0 hm1 hm h2 hin h,by omega,by omega⟩
 have hev : evs = [] ∨ ∃ p,evs[k]? = some p := by
  cases evs with
  | nil => exact .inl rfl
  | cons a l =>
   have hk : k < l.length + 1 := hk
   exact .inr ⟨(a :: l)[k],List.getElem?_eq_getElem (by simpa using hk)⟩
 have fin : j ≠ 2 → j ≠ 1 → (∃ z : Int,CallOk Tryz.prog M 9 [.agg #[m0,slV b1 nt nt,strB b0,sv]] (.int .i64 z) ∧ 0 ≤ z ∧ z ≤ 40) → ∃ z : Int,CallOk Tryz.prog M 9 [.agg #[m0,cond (Nat.beq j 2) (cutV b1 nt) (slV b1 nt nt),strB (basG ⟨n,nt',j,j5,j4,k⟩),sv]] (.int .i64 z) ∧ (0 ≤ z ∧ z ≤ 40) ∧ (z = 0 → j ≠ 2) := by
  rintro h2 h1 ⟨z,hz,hr⟩
  refine ⟨z,?_,hr,fun _ => h2⟩
  have e : basG ⟨n,nt',j,j5,j4,k⟩ = b0 := by
   show cond (Nat.beq j 1) _ b0 = b0
   rw [nbeq_false h1,cond_false]
  rw [e,nbeq_false h2,cond_false]
  exact hz
 match j,hj with
 | 0,_ => exact fin (by omega) (by omega) (plain hs)
 | 1,_ =>
  obtain ⟨z,hz,hr⟩ := hist_base hg hm0 hm1 hm h2 hin hs (hj5 rfl)
  exact ⟨z,hz,hr,fun _ => show (1 : Nat) ≠ 2 by omega⟩
 | 2,_ =>
  obtain ⟨z,hz,hc⟩ := hbad rfl
  refine ⟨_,hist_q hg hm0 (show oneV (cutV b1 nt) from trivial) (EvsC.one hs) hc (n := none) (fun k hk => by cases hk) (List.all_eq_true.1 runQ_m z (List.mem_range.2 hz)),⟨Int.natCast_nonneg _,?_⟩,fun h => ?_⟩
  ·have : Int.ofNat (z + 1) = (z : Int) + 1 := rfl
   omega
  ·have : Int.ofNat (z + 1) = (z : Int) + 1 := rfl
   exfalso
   omega
 | 3,_ =>
  have hs : EvsC M (evs.map (·.2) ++ List.replicate (11 + j4 - n) tiltR) sv := hs
  rw [hn] at hs
  exact fin (by omega) (by omega) (hist_tilts hg hm0 hm1 hm h2 hin (hj4 (.inl rfl)) hs)
 | 4,_ => exact fin (by omega) (by omega) (hist_copy hg hm0 hm1 hm h2 hin hk hs)
 | 5,_ =>
  refine fin (by omega) (by omega) ?_
  have hs : EvsC M (setAt (evs.map (·.2)) k 0 (.int .i64 (at_ - 1))) sv := hs
  rcases hev with rfl | ⟨p,hp⟩
  ·rw [List.map_nil,setAt_nil] at hs
   exact plain hs
  ·rw [setAt_map hp] at hs
   rcases (hin k p hp).kindz hg hm0 hm1 hm (z := at_ - 1) (by omega) with e | ⟨u,hu,hc⟩
   ·rw [e,set_self hp] at hs
    exact plain hs
   ·exact hist_set hg hm0 hm1 hm h2 hin hp hc (.inr (.inr ⟨u,hu,rfl⟩)) hs
 | 6,_ =>
  refine fin (by omega) (by omega) ?_
  have hs : EvsC M (setAt (evs.map (·.2)) k 1 (strB ((namesG[j4]?).getD []))) sv := hs
  rcases hev with rfl | ⟨p,hp⟩
  ·rw [List.map_nil,setAt_nil] at hs
   exact plain hs
  ·rw [setAt_map hp] at hs
   have bad : ∀ nm,(nm = [] ∨ nm = [57] ∨ nm = [120,45]) → EvsC M ((evs.map (·.2)).set k (p.2.set 1 (strB nm))) sv → ∃ z : Int,CallOk Tryz.prog M 9 [.agg #[m0,slV b1 nt nt,strB b0,sv]] (.int .i64 z) ∧ 0 ≤ z ∧ z ≤ 40 := fun nm h hs =>
    hist_set hg hm0 hm1 hm h2 hin hp ((hin k p hp).namez hg hm0 hm1 hm h) (.inr (.inr ⟨8,by simp [errsC],rfl⟩)) hs
   match j4,hj4 (.inr rfl) with
   | 0,_ => exact bad [] (.inl rfl) hs
   | 1,_ => exact bad [57] (.inr (.inl rfl)) hs
   | 2,_ => exact bad [120,45] (.inr (.inr rfl)) hs
   | 3,_ => exact hist_set hg hm0 hm1 hm h2 hin hp (hin k p hp).fine (.inl rfl) hs
   | m + 4,h => exact absurd h (by omega)
 | 7,_ =>
  refine fin (by omega) (by omega) ?_
  have hs : EvsC M (setAt (evs.map (·.2)) k 24 (strB [122])) sv := hs
  rcases hev with rfl | ⟨p,hp⟩
  ·rw [List.map_nil,setAt_nil] at hs
   exact plain hs
  ·rw [setAt_map hp] at hs
   by_cases h5 : p.1 = 5
   ·have hi := hin k p hp
    rw [h5] at hi
    exact hist_set hg hm0 hm1 hm h2 hin hp hi.unitz (.inr (.inl rfl)) hs
   ·exact hist_set hg hm0 hm1 hm h2 hin hp ((hin k p hp).noz h5) (.inr (.inr ⟨7,by simp [errsC],rfl⟩)) hs
 | m + 8,h => exact absurd h (by omega)
end Go.Proofs.YteempkgmaohpnaaGreatDoor
namespace Go.Proofs.YteempkgmaohpnaaGreatDoor
open Go Ev Klp
structure HistR (M : Mem) (m0 m1 sv : Value) : Prop where
 chk : CallOk Tryz.prog M 9 [.agg #[m0,m1,strB b0,sv]] (.int .i64 0)
 evs : EvsIn M (.agg #[m0,m1]) sv
theorem HistR.le {M M' : Mem} (hl : M.Le M') {m0 m1 sv : Value} (h : HistR M m0 m1 sv) : HistR M' m0 m1 sv := ⟨h.chk.le hl,h.evs.le hl⟩
theorem EvsIn.hist {M : Mem} (hg : Good M) {m0 m1 : Value} (hm0 : oneV m0) (hm1 : oneV m1) (hm : CallOk Tryz.prog M 29 [.agg #[m0,m1]] (.int .i64 0)) {sv : Value} (h : EvsIn M (.agg #[m0,m1]) sv) : HistR M m0 m1 sv := by
 obtain ⟨evs,h2,hr,hin⟩ := id h
 exact ⟨hist_plain hg hm0 hm1 hm h2 hin hr.toC,h⟩
end Go.Proofs.YteempkgmaohpnaaGreatDoor
