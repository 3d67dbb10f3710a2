/-
  klippelaw34.OutcropChecks at any plan and any change: true.
-/
import Derived.Test.YteempkgmaohpnaaGreatDoorWalkK
import Derived.Test.YteempkgmaohpnaaGreatDoorChgR
import Derived.Test.YteempkgmaohpnaaGreatDoorDealO
import Derived.Test.YteempkgmaohpnaaGreatDoorDealP
import Derived.Test.YteempkgmaohpnaaGreatDoorEvKnownA
import Derived.Test.YteempkgmaohpnaaGreatDoorTerr
import Derived.Test.YteempkgmaohpnaaGreatDoorShapeX
import Derived.Test.YteempkgmaohpnaaGreatDoorMakeR3
import Derived.Test.YteempkgmaohpnaaGreatDoorMakeR4
import Derived.Test.YteempkgmaohpnaaGreatDoorMakeR5
import Derived.Test.YteempkgmaohpnaaGreatDoorMakeR6
import Derived.Test.YteempkgmaohpnaaGreatDoorMesh0
import Derived.Test.YteempkgmaohpnaaGreatDoorMesh1
import Derived.Test.YteempkgmaohpnaaGreatDoorMesh2
import Derived.Test.YteempkgmaohpnaaGreatDoorMesh3
import Derived.Test.YteempkgmaohpnaaGreatDoorMesh4
import Derived.Test.YteempkgmaohpnaaGreatDoorMesh5
import Derived.Test.YteempkgmaohpnaaGreatDoorMesh6
import Derived.Test.YteempkgmaohpnaaGreatDoorMesh7
import Derived.Test.YteempkgmaohpnaaGreatDoorCutsA
import Derived.Test.YteempkgmaohpnaaGreatDoorCutsB
import Derived.Test.YteempkgmaohpnaaGreatDoorCutsC
set_option linter.unusedSectionVars false
set_option linter.unusedVariables false
set_option linter.unusedSimpArgs false
namespace Go.Proofs.YteempkgmaohpnaaGreatDoor
open Go Ev Klp
structure MeshD where
 d : Nat
 pts : List (Int × Int)
 tris : List Int
 nt : Nat
def CutT.md (t : CutT) : MeshD := ⟨t.d,t.pts,t.tris,t.nt⟩
def MeshD.X (t : MeshD) (s0 s1 : Int) : Value → Value → Mem → Prop := MeshRaw t.d s0 s1 t.pts t.tris t.nt
structure MeshAll (K : Nat) (hf : Bool) (t : MeshD) : Prop where
 np : goodNp t.pts.length
 nt : 1 ≤ t.nt ∧ t.nt ≤ 12
 mesh : ∀ {M : Mem},Good M → ∀ {k s0 s1 : Int},(0 ≤ k ∧ k ≤ 255) → (-128 ≤ s0 ∧ s0 ≤ 127) → (-128 ≤ s1 ∧ s1 ≤ 127) → k.tmod 8 = K → ∀ {w : World},M.On w →
  Calls Tryz.prog 56 #[.agg #[.int .u8 k,.int .i8 s0,.int .i8 s1,.bool hf]] w (RetM M w (Post12 t.pts.length t.nt (t.X (s0.tmod 8) (s1.tmod 8))))
 cut : ∀ {M : Mem},Good M → ∀ {s0 s1 : Int},(-7 ≤ s0 ∧ s0 ≤ 7) → (-7 ≤ s1 ∧ s1 ≤ 7) → ∀ {b0 c0 b1 : Nat},t.X s0 s1 (slV b0 t.pts.length c0) (slV b1 t.nt t.nt) M →
  ∃ z : Nat,z < 30 ∧ CallOk Tryz.prog M 29 [.agg #[slV b0 t.pts.length c0,cutV b1 t.nt]] (.int .i64 (Int.ofNat (z + 1)))
theorem cut_all {t : CutT} {k0 : List (Nat × RM)} (ht : t.Ok k0) {M : Mem} (hg : Good M) {s0 s1 : Int} (h0 : -7 ≤ s0 ∧ s0 ≤ 7) (h1 : -7 ≤ s1 ∧ s1 ≤ 7) {b0 c0 b1 : Nat} (hraw : t.md.X s0 s1 (slV b0 t.md.pts.length c0) (slV b1 t.md.nt t.md.nt) M) :
  ∃ z : Nat,z < 30 ∧ CallOk Tryz.prog M 29 [.agg #[slV b0 t.md.pts.length c0,cutV b1 t.md.nt]] (.int .i64 (Int.ofNat (z + 1))) := by
 have h := ht.own
 simp only [Bool.and_eq_true] at h
 exact ⟨t.z,nblt_lt h.2,cut_ok ht hg h0 h1 hraw⟩
theorem all00 : MeshAll 0 false cu00.md := ⟨.inr (.inl rfl),by decide,fun hg _ _ _ hk h0 h1 hK _ hw => me00_ok.mesh hg hk h0 h1 hK hw,fun hg _ _ h0 h1 _ _ _ h => cut_all cu00_ok hg h0 h1 h⟩
theorem all01 : MeshAll 0 true cu01.md := ⟨.inr (.inl rfl),by decide,fun hg _ _ _ hk h0 h1 hK _ hw => me01_ok.mesh hg hk h0 h1 hK hw,fun hg _ _ h0 h1 _ _ _ h => cut_all cu01_ok hg h0 h1 h⟩
theorem all10 : MeshAll 1 false cu10.md := ⟨.inr (.inl rfl),by decide,fun hg _ _ _ hk h0 h1 hK _ hw => me10_ok.mesh hg hk h0 h1 hK hw,fun hg _ _ h0 h1 _ _ _ h => cut_all cu10_ok hg h0 h1 h⟩
theorem all11 : MeshAll 1 true cu11.md := ⟨.inr (.inl rfl),by decide,fun hg _ _ _ hk h0 h1 hK _ hw => me11_ok.mesh hg hk h0 h1 hK hw,fun hg _ _ h0 h1 _ _ _ h => cut_all cu11_ok hg h0 h1 h⟩
theorem all20 : MeshAll 2 false cu20.md := ⟨.inr (.inr (.inl rfl)),by decide,fun hg _ _ _ hk h0 h1 hK _ hw => me20_ok.mesh hg hk h0 h1 hK hw,fun hg _ _ h0 h1 _ _ _ h => cut_all cu20_ok hg h0 h1 h⟩
theorem all21 : MeshAll 2 true cu21.md := ⟨.inr (.inr (.inl rfl)),by decide,fun hg _ _ _ hk h0 h1 hK _ hw => me21_ok.mesh hg hk h0 h1 hK hw,fun hg _ _ h0 h1 _ _ _ h => cut_all cu21_ok hg h0 h1 h⟩
theorem all30 : MeshAll 3 false cu30.md := ⟨.inl rfl,by decide,fun hg _ _ _ hk h0 h1 hK _ hw => me30_ok.mesh hg hk h0 h1 hK hw,fun hg _ _ h0 h1 _ _ _ h => cut_all cu30_ok hg h0 h1 h⟩
theorem all31 : MeshAll 3 true cu31.md := ⟨.inl rfl,by decide,fun hg _ _ _ hk h0 h1 hK _ hw => me31_ok.mesh hg hk h0 h1 hK hw,fun hg _ _ h0 h1 _ _ _ h => cut_all cu31_ok hg h0 h1 h⟩
theorem all40 : MeshAll 4 false cu40.md := ⟨.inr (.inr (.inr rfl)),by decide,fun hg _ _ _ hk h0 h1 hK _ hw => me40_ok.mesh hg hk h0 h1 hK hw,fun hg _ _ h0 h1 _ _ _ h => cut_all cu40_ok hg h0 h1 h⟩
theorem all41 : MeshAll 4 true cu41.md := ⟨.inr (.inr (.inr rfl)),by decide,fun hg _ _ _ hk h0 h1 hK _ hw => me41_ok.mesh hg hk h0 h1 hK hw,fun hg _ _ h0 h1 _ _ _ h => cut_all cu41_ok hg h0 h1 h⟩
theorem all50 : MeshAll 5 false cu50.md := ⟨.inr (.inl rfl),by decide,fun hg _ _ _ hk h0 h1 hK _ hw => me50_ok.mesh hg hk h0 h1 hK hw,fun hg _ _ h0 h1 _ _ _ h => cut_all cu50_ok hg h0 h1 h⟩
theorem all51 : MeshAll 5 true cu51.md := ⟨.inr (.inl rfl),by decide,fun hg _ _ _ hk h0 h1 hK _ hw => me51_ok.mesh hg hk h0 h1 hK hw,fun hg _ _ h0 h1 _ _ _ h => cut_all cu51_ok hg h0 h1 h⟩
theorem all60 : MeshAll 6 false cu60.md := ⟨.inr (.inr (.inl rfl)),by decide,fun hg _ _ _ hk h0 h1 hK _ hw => me60_ok.mesh hg hk h0 h1 hK hw,fun hg _ _ h0 h1 _ _ _ h => cut_all cu60_ok hg h0 h1 h⟩
theorem all61 : MeshAll 6 true cu61.md := ⟨.inr (.inr (.inl rfl)),by decide,fun hg _ _ _ hk h0 h1 hK _ hw => me61_ok.mesh hg hk h0 h1 hK hw,fun hg _ _ h0 h1 _ _ _ h => cut_all cu61_ok hg h0 h1 h⟩
theorem all70 : MeshAll 7 false cu70.md := ⟨.inr (.inl rfl),by decide,fun hg _ _ _ hk h0 h1 hK _ hw => me70_ok.mesh hg hk h0 h1 hK hw,fun hg _ _ h0 h1 _ _ _ h => cut_all cu70_ok hg h0 h1 h⟩
theorem all71 : MeshAll 7 true cu71.md := ⟨.inr (.inl rfl),by decide,fun hg _ _ _ hk h0 h1 hK _ hw => me71_ok.mesh hg hk h0 h1 hK hw,fun hg _ _ h0 h1 _ _ _ h => cut_all cu71_ok hg h0 h1 h⟩
theorem mesh_all {K : Nat} (hK : K < 8) (hf : Bool) : ∃ t,MeshAll K hf t := by
 have : K = 0 ∨ K = 1 ∨ K = 2 ∨ K = 3 ∨ K = 4 ∨ K = 5 ∨ K = 6 ∨ K = 7 := by omega
 cases hf
 ·rcases this with rfl | rfl | rfl | rfl | rfl | rfl | rfl | rfl
  ·exact ⟨_,all00⟩
  ·exact ⟨_,all10⟩
  ·exact ⟨_,all20⟩
  ·exact ⟨_,all30⟩
  ·exact ⟨_,all40⟩
  ·exact ⟨_,all50⟩
  ·exact ⟨_,all60⟩
  ·exact ⟨_,all70⟩
 ·rcases this with rfl | rfl | rfl | rfl | rfl | rfl | rfl | rfl
  ·exact ⟨_,all01⟩
  ·exact ⟨_,all11⟩
  ·exact ⟨_,all21⟩
  ·exact ⟨_,all31⟩
  ·exact ⟨_,all41⟩
  ·exact ⟨_,all51⟩
  ·exact ⟨_,all61⟩
  ·exact ⟨_,all71⟩
theorem terr_all {np : Nat} (hn : goodNp np) (half : Bool) : ∃ t : TerrT,t.ok = true ∧ t.np = np ∧ t.half = half := by
 rcases hn with rfl | rfl | rfl | rfl <;> cases half
 ·exact ⟨te03,te03_ok,rfl,rfl⟩
 ·exact ⟨te13,te13_ok,rfl,rfl⟩
 ·exact ⟨te04,te04_ok,rfl,rfl⟩
 ·exact ⟨te14,te14_ok,rfl,rfl⟩
 ·exact ⟨te05,te05_ok,rfl,rfl⟩
 ·exact ⟨te15,te15_ok,rfl,rfl⟩
 ·exact ⟨te06,te06_ok,rfl,rfl⟩
 ·exact ⟨te16,te16_ok,rfl,rfl⟩
theorem runs_one {np : Nat} (hn : goodNp np) : ∀ a ∈ S0 np,runM [a] = true := by
 rcases hn with rfl | rfl | rfl | rfl
 ·exact List.all_eq_true.1 runsA3
 ·exact List.all_eq_true.1 runsA4
 ·exact List.all_eq_true.1 runsA5
 ·exact List.all_eq_true.1 runsA6
theorem runs_two {np : Nat} (hn : goodNp np) : ∀ a ∈ S0 np,∀ b ∈ S1 np,runM [a,b] = true := by
 rcases hn with rfl | rfl | rfl | rfl
 ·exact fun a ha => List.all_eq_true.1 (List.all_eq_true.1 runsB3 a ha)
 ·exact fun a ha => List.all_eq_true.1 (List.all_eq_true.1 runsB4 a ha)
 ·exact fun a ha => List.all_eq_true.1 (List.all_eq_true.1 runsB5 a ha)
 ·exact fun a ha => List.all_eq_true.1 (List.all_eq_true.1 runsB6 a ha)
def Shaped (kind sub : Nat) : Prop := (kind = 2 ∧ sub = 0) ∨ (kind = 4 ∧ sub = 0) ∨ (kind = 3 ∧ sub < 6) ∨ (kind = 5 ∧ sub < 6) ∨ (kind = 1 ∧ sub < 3)
theorem tmod_nat {z : Int} {n : Nat} (hn : 0 < n) (hz : 0 ≤ z) : ∃ m : Nat,m < n ∧ z.tmod n = m := by
 obtain ⟨h1,h2⟩ := tmod_rn (z := z) hn hz
 exact ⟨(z.tmod n).toNat,by omega,by omega⟩
theorem kinded_of {dd : Nat → Int} (h : DeedOk dd) : ∃ kind sub,Kinded dd kind sub ∧ Shaped kind sub := by
 obtain ⟨m,hm,e⟩ := tmod_nat (z := dd 0) (n := 5) (by omega) (h.byte 0 (by omega)).1
 have e : (dd 0).tmod 5 = m := e
 have h8 := (h.byte 8 (by omega)).1
 have h11 := (h.byte 11 (by omega)).1
 have : m = 0 ∨ m = 1 ∨ m = 2 ∨ m = 3 ∨ m = 4 := by omega
 rcases this with rfl | rfl | rfl | rfl | rfl
 ·obtain ⟨s,hs,e8⟩ := tmod_nat (z := dd 8) (n := 3) (by omega) h8
  exact ⟨1,s,⟨e,e8⟩,.inr (.inr (.inr (.inr ⟨rfl,hs⟩)))⟩
 ·exact ⟨2,0,⟨e,rfl⟩,.inl ⟨rfl,rfl⟩⟩
 ·obtain ⟨s,hs,e8⟩ := tmod_nat (z := dd 8) (n := 3) (by omega) h8
  obtain ⟨u,hu,e11⟩ := tmod_nat (z := dd 11) (n := 2) (by omega) h11
  have e8 : (dd 8).tmod 3 = s := e8
  have e11 : (dd 11).tmod 2 = u := e11
  refine ⟨3,2 * s + u,⟨e,?_,?_⟩,.inr (.inr (.inl ⟨rfl,by omega⟩))⟩
  ·rw [e8]; congr 1; omega
  ·rw [e11]; congr 1; omega
 ·exact ⟨4,0,⟨e,rfl⟩,.inr (.inl ⟨rfl,rfl⟩)⟩
 ·obtain ⟨s,hs,e8⟩ := tmod_nat (z := dd 8) (n := 6) (by omega) h8
  exact ⟨5,s,⟨e,e8⟩,.inr (.inr (.inr (.inl ⟨rfl,hs⟩)))⟩
theorem shaped_lt {kind sub : Nat} (h : Shaped kind sub) : shOf kind sub < 7 := by
 rcases h with ⟨rfl,rfl⟩ | ⟨rfl,rfl⟩ | ⟨rfl,h⟩ | ⟨rfl,h⟩ | ⟨rfl,h⟩ <;> simp only [shOf] <;> omega
structure Dealt (np : Nat) (dds : List (Nat → Int)) (l : List DealT) : Prop where
 len : dds.length = l.length
 few : l.length ≤ 2
 idx : ∀ (i : Nat) (d : DealT),l[i]? = some d → d.e = i ∧ d.np = np ∧ d.ok = true
 shp : ∀ d ∈ l,shOf d.kind d.sub < 7
 kin : ∀ (i : Nat) (d : DealT) (dd : Nat → Int),l[i]? = some d → dds[i]? = some dd → DeedOk dd ∧ Kinded dd d.kind d.sub
 hox : ∀ d ∈ l,d.okX = true ∧ shKind (shOf d.kind d.sub) = d.kind
 run : runM l = true
theorem dealt {np : Nat} (hn : goodNp np) {dds : List (Nat → Int)} (hd : ∀ dd ∈ dds,DeedOk dd) (hl : dds.length ≤ 2) : ∃ l,Dealt np dds l := by
 match dds,hl with
 | [],_ => exact ⟨[],⟨rfl,by simp,(fun i d h => by simp at h),(fun d h => by cases h),(fun i d dd h => by simp at h),(fun d h => by cases h),runs0⟩⟩
 | [a],_ =>
  have ha := hd a (by simp)
  obtain ⟨k,s,hk,hs⟩ := kinded_of ha
  obtain ⟨d,hm,rfl,rfl⟩ := S0_has hn hs
  refine ⟨[d],rfl,by simp,fun i x h => ?_,fun x h => ?_,fun i x dd h h' => ?_,fun x h => ?_,runs_one hn d hm⟩
  ·match i,h with
   | 0,h => simp at h; subst h; exact S0_ok hn d hm
   | i + 1,h => simp at h
  ·rw [List.mem_singleton.1 h]; exact shaped_lt hs
  ·match i,h,h' with
   | 0,h,h' => simp at h h'; subst h; subst h'; exact ⟨ha,hk⟩
   | i + 1,h,_ => simp at h
  ·rw [List.mem_singleton.1 h]; exact S0_okX hn d hm
 | [a,b],_ =>
  have ha := hd a (by simp)
  have hb := hd b (by simp)
  obtain ⟨k,s,hk,hs⟩ := kinded_of ha
  obtain ⟨k',s',hk',hs'⟩ := kinded_of hb
  obtain ⟨d,hm,rfl,rfl⟩ := S0_has hn hs
  obtain ⟨d',hm',rfl,rfl⟩ := S1_has hn hs'
  refine ⟨[d,d'],rfl,by simp,fun i x h => ?_,fun x h => ?_,fun i x dd h h' => ?_,fun x h => ?_,runs_two hn d hm d' hm'⟩
  ·match i,h with
   | 0,h => simp at h; subst h; exact S0_ok hn d hm
   | 1,h => simp at h; subst h; exact S1_ok hn d' hm'
   | i + 2,h => simp at h
  ·simp only [List.mem_cons,List.not_mem_nil,or_false] at h
   rcases h with rfl | rfl
   ·exact shaped_lt hs
   ·exact shaped_lt hs'
  ·match i,h,h' with
   | 0,h,h' => simp at h h'; subst h; subst h'; exact ⟨ha,hk⟩
   | 1,h,h' => simp at h h'; subst h; subst h'; exact ⟨hb,hk'⟩
   | i + 2,h,_ => simp at h
  ·simp only [List.mem_cons,List.not_mem_nil,or_false] at h
   rcases h with rfl | rfl
   ·exact S0_okX hn _ hm
   ·exact S1_okX hn _ hm'
 | _ :: _ :: _ :: _,h => exact absurd h (by simp)
theorem EvsC.slice {M : Mem} {lss : List (List Value)} {sv : Value} (h : EvsC M lss sv) : ∃ a n c,sv = Value.slice a n c := by
 rcases h with ⟨_,rfl⟩ | ⟨_,_,_,_,_,_,_,rfl,_⟩
 ·exact ⟨_,_,_,rfl⟩
 ·exact ⟨_,_,_,rfl⟩
theorem tmod_pick {z : Int} {n : Nat} (hn : 0 < n) (hz : 0 ≤ z) (b : Bool) : ∃ m : Nat,m < cond b n 1 ∧ (b = true → z.tmod n = m) := by
 cases b
 ·exact ⟨0,Nat.zero_lt_one,fun h => by cases h⟩
 ·obtain ⟨m,h1,h2⟩ := tmod_nat hn hz
  exact ⟨m,h1,fun _ => h2⟩
theorem chg_of {kx at_ : Int} (hk : 0 ≤ kx ∧ kx ≤ 255) (ha : 0 ≤ at_ ∧ at_ ≤ 255) {n nt : Nat} (hn : n ≤ 2) (hnt : 1 ≤ nt ∧ nt ≤ 12) : ∃ t : ChgT,ChgOk t kx at_ n nt ∧ runCh t = true ∧ t.n = n ∧ t.j < 8 ∧ (t.j = 1 → t.j5 < 5) ∧ (t.j = 3 ∨ t.j = 6 → t.j4 < 4) ∧ t.k < max1 n := by
 have hm1 : 0 < max1 n := by
  have : n = 0 ∨ n = 1 ∨ n = 2 := by omega
  rcases this with rfl | rfl | rfl <;> decide
 obtain ⟨j,j1,j2⟩ := tmod_nat (z := kx) (n := 8) (by omega) hk.1
 obtain ⟨j5,a1,a2⟩ := tmod_pick (z := at_) (n := 5) (by omega) ha.1 (Nat.beq j 1)
 obtain ⟨j4,b1,b2⟩ := tmod_pick (z := at_) (n := 4) (by omega) ha.1 (j36 j)
 obtain ⟨k,k1,k2⟩ := tmod_nat (z := at_) (n := max1 n) hm1 ha.1
 obtain ⟨u,u1,u2⟩ : ∃ u,u < cond (Nat.beq j 2) 12 1 ∧ (j = 2 → u + 1 = nt) := by
  cases h : Nat.beq j 2
  ·exact ⟨0,by decide,fun e => by subst e; cases h⟩
  ·exact ⟨nt - 1,by rw [cond_true]; omega,fun _ => by omega⟩
 have h36 : j = 3 ∨ j = 6 → j36 j = true := by rintro (rfl | rfl) <;> rfl
 refine ⟨⟨n,u + 1,j,j5,j4,k⟩,⟨rfl,u2,j2,fun h => a2 (by cases h; rfl),fun h => b2 (h36 h),k2⟩,runCh_all (by omega) k1 j1 a1 b1 u1,rfl,j1,fun h => ?_,fun h => ?_,k1⟩
 ·have h : j = 1 := h
  subst h; exact a1
 ·have h := h36 h
  rw [h,cond_true] at b1; exact b1
theorem chg_hist {M : Mem} (hg : Good M) {b0 np c0 b1 nt : Nat} {sv : Value} (hnt : 1 ≤ nt ∧ nt ≤ 12) (hm : CallOk Tryz.prog M 29 [.agg #[slV b0 np c0,slV b1 nt nt]] (.int .i64 0)) (hh : HistR M (slV b0 np c0) (slV b1 nt nt) sv)
  (hbad : ∃ z : Nat,z < 30 ∧ CallOk Tryz.prog M 29 [.agg #[slV b0 np c0,cutV b1 nt]] (.int .i64 (Int.ofNat (z + 1)))) {kx at_ : Int} (hk : 0 ≤ kx ∧ kx ≤ 255) (ha : 0 ≤ at_ ∧ at_ ≤ 255) {w : World} (hw : M.On w) :
  Calls Tryz.prog 8 #[.agg #[slV b0 np c0,slV b1 nt nt,strB baseB,sv],.agg #[.int .u8 kx,.int .u8 at_]] w (RetM M w fun y M' => ∃ m1' bs' sv',y = .agg #[slV b0 np c0,m1',bs',sv'] ∧ (∃ a n c,m1' = Value.slice a n c) ∧ (∃ s,bs' = Value.string s) ∧ (∃ a n c,sv' = Value.slice a n c) ∧
   ∃ h : Int,(0 ≤ h ∧ h ≤ 40) ∧ CallOk Tryz.prog M' 9 [.agg #[slV b0 np c0,m1',bs',sv']] (.int .i64 h) ∧ (h = 0 → m1' = slV b1 nt nt)) := by
 obtain ⟨evs,h2,hraw,hin⟩ := hh.evs
 obtain ⟨t,h3,h4,h5,h6,h7,h8,h9⟩ := chg_of hk ha (n := evs.length) (nt := nt) h2 hnt
 have hl : ∀ ls ∈ evs.map (·.2),ls.length = 32 ∧ ∀ x ∈ ls,oneV x := fun ls hm => by
  obtain ⟨p,hp,rfl⟩ := List.mem_map.1 hm
  obtain ⟨k,hk⟩ := List.mem_iff_getElem?.1 hp
  exact ⟨(hin k p hk).raw.len,(hin k p hk).raw.one⟩
 have h3' : ChgOk t kx at_ (evs.map (·.2)).length nt := by rw [List.length_map]; exact h3
 refine (changed_ok hg (m0 := slV b0 np c0) trivial (by rw [List.length_map]; exact h2) hl hraw.toC hk ha h3' h4 hw).mono ?_
 rintro e w' ⟨y,M',rfl,g1,g2,g3,g4,g5,sv',rfl,hs⟩
 refine ⟨_,M',rfl,g1,g2,g3,g4,g5,_,_,_,rfl,?_,⟨_,rfl⟩,hs.slice,?_⟩
 ·cases Nat.beq t.j 2 <;> exact ⟨_,_,_,rfl⟩
 ·obtain ⟨z,z1,z2,z3⟩ := hist_changed (hg.le g4) (m0 := slV b0 np c0) trivial (hm.le g4) h2 (fun k p hk => (hin k p hk).le g4) ha h5 h6 h7 h8 h9 (fun _ => by obtain ⟨z,q1,q2⟩ := hbad; exact ⟨z,q1,q2.le g4⟩) hs
  refine ⟨z,z2,z1,fun h => ?_⟩
  rw [nbeq_false (z3 h),cond_false]
theorem known_calls {M : Mem} (hg : Good M) (w : World) (hw : M.On w) : Calls Tryz.prog 4 #[] w (QuietP (.bool true) w) := by
 let B : Base := { toMem := M,sym := fun _ => .nilFunc }
 have hone : ∀ i,oneV (B.sym i) := fun _ => trivial
 refine (known_true (fnOk (hg.pow _ _)) (baseE B hone) w [] base_stat rfl hw.size hw.same).mono ?_
 rintro e w' ⟨x,rfl,hv,hgr,hs⟩
 exact ⟨by rw [show x = .bool true from hv],hgr,hs⟩
theorem zT_bd {half : Bool} {hv : Nat → Int} (i : Nat) : -38 ≤ zT half hv i ∧ zT half hv i ≤ 38 := by
 have h : -19 ≤ (hv i).tmod 20 ∧ (hv i).tmod 20 ≤ 19 := tmod_rg (z := hv i) (n := 20) (by omega)
 unfold zT
 cases half <;> simp only [cond_true,cond_false] <;> omega
theorem good_mem {n : Nat} (h : goodNp n) : n ∈ [3,4,5,6] := by rcases h with h | h | h | h <;> subst h <;> decide
theorem body0 : Tryz.f3.body = some ((sq1 (bodyOf Tryz.f3)).seq ((sq1 (sq2 (bodyOf Tryz.f3))).seq ((sq1 (sq2 (sq2 (bodyOf Tryz.f3)))).seq (cloneK.seq (blkK.seq rest12))))) := rfl
theorem raw_nt {t : MeshD} {s0 s1 : Int} {m0 : Value} {b1 c1 : Nat} {M : Mem} (h : t.X s0 s1 m0 (slV b1 t.nt c1) M) : c1 = t.nt := by
 obtain ⟨_,_,_,_,_,e,_,e2,_⟩ := h.raw
 obtain ⟨_,_,rfl⟩ := slV_inj' e
 exact e2
theorem law_many {M : Mem} {k s0 s1 : Int} {hf half : Bool} {b : Option Addr} {n c : Nat} {hv : Nat → Int} {kx at_ how : Int} {w : World} (hw : M.On w) (hk : ∀ w,M.On w → Calls Tryz.prog 4 #[] w (QuietP (.bool true) w)) (hn : 2 < n) :
  Calls Tryz.prog 3 #[planR k s0 s1 hf half (.slice b n c) hv,slipR kx at_,.int .u8 how] w (LawP w) := by
 refine calls_of_wp Tryz.func3 body3 ?_
 refine many_wp hw hk (fun w => ?_)
 have := fits_walk (k := k) (s0 := s0) (s1 := s1) (hf := hf) (half := half) (b := b) (n := n) (c := c) (hv := hv) w
 rwa [decide_eq_false (by omega)] at this
theorem law_few {M : Mem} (hg : Good M) {k s0 s1 : Int} {hf half : Bool} {b : Option Addr} {n c : Nat} {hv : Nat → Int} {kx at_ how : Int} (hkx : 0 ≤ kx ∧ kx ≤ 255) (hat : 0 ≤ at_ ∧ at_ ≤ 255) (hhow : 0 ≤ how ∧ how ≤ 255) {w : World} (hw : M.On w)
  (hk : ∀ w,M.On w → Calls Tryz.prog 4 #[] w (QuietP (.bool true) w)) (hn : n ≤ 2) {t : MeshD} {K : Nat} {hf' : Bool} (ht : MeshAll K hf' t) {u0 u1 : Int} (h0 : -7 ≤ u0 ∧ u0 ≤ 7) (h1 : -7 ≤ u1 ∧ u1 ≤ 7) {z : Nat → Int} (hz : ∀ i,i < 6 → -38 ≤ z i ∧ z i ≤ 38)
  (hm : ∀ w,M.On w → Calls Tryz.prog 6 #[planR k s0 s1 hf half (.slice b n c) hv] w (RetM M w (Post34 t.pts.length t.nt (t.X u0 u1) z))) :
  Calls Tryz.prog 3 #[planR k s0 s1 hf half (.slice b n c) hv,slipR kx at_,.int .u8 how] w (LawP w) := by
 have hX : ∀ m0 m1 M M',M.Le M' → t.X u0 u1 m0 m1 M → t.X u0 u1 m0 m1 M' := fun _ _ _ _ hle h => MeshRaw.le hle h
 have hnp := good_mem ht.np
 have hfit : ∀ w,Calls Tryz.prog 5 #[planR k s0 s1 hf half (.slice b n c) hv] w (QuietP (.bool true) w) := fun w => by
  have := fits_walk (k := k) (s0 := s0) (s1 := s1) (hf := hf) (half := half) (b := b) (n := n) (c := c) (hv := hv) w
  rwa [decide_eq_true (by omega)] at this
 obtain ⟨r1,r2⟩ := tmod_rn (z := how) (n := 4) (by omega) hhow.1
 have r3 : how.tmod 4 = 0 ∨ how.tmod 4 = 1 ∨ how.tmod 4 = 2 ∨ how.tmod 4 = 3 := by
  have r1 : 0 ≤ how.tmod 4 := r1
  have r2 : how.tmod 4 ≤ 4 - 1 := r2
  omega
 by_cases hz0 : how.tmod 4 = 0
 ·refine calls_of_wp Tryz.func3 body0 ?_
  refine zero_wp hw hk hfit hX hm hz0 (fun M1 tv w hle hterr hon => clone_ok (hg.le hle) hnp hz hterr hon) (fun M1 b0 c0 b1 c1 sv w hle hon hck hx hh => ?_) (QQ := bodyPost Tryz.prog Tryz.f3 (LawP w)) ?_
  ·obtain rfl := raw_nt hx
   exact chg_hist (hg.le hle) ht.nt hck hh (ht.cut (hg.le hle) h0 h1 hx) hkx hat hon
  ·intro M' b0 c0 b1 c1 m1' bs' sv' tv' p7 a w' hon ts t7 hdf h7 z7 hle hgr hfr q7 o1 o2 o3 o4 hck hhist htx hx
   obtain rfl := raw_nt hx
   obtain ⟨h,hr,hH,heq⟩ := hhist
   refine checks_tail (hg.le hle) (c := cc (slV b0 t.pts.length c0) m1' bs' sv' tv') (cc_one trivial o1 o2 o3 o4) hon ts t7 hdf h7 z7 hgr hfr q7 (h := h) hr hH (fun e0 => ?_)
   have e1 : m1' = slV b1 t.nt t.nt := heq e0
   subst e1
   exact ⟨0,⟨by omega,by omega⟩,field_0 (hg.le hle) hnp hz ⟨_,_,rfl⟩ trivial hck (htx.raw (by simp [htsR]))⟩
 ·refine calls_of_wp Tryz.func3 body3 ?_
  refine few_wp hw hk hfit hm (QQ := bodyPost Tryz.prog Tryz.f3 (LawP w)) ?_
  intro M1 b0 c0 b1 c1 sv tv p4 p7 a w1 hon ts t2 t4 t7 hdf h7 h4 n74 z7 z4 hle hgr hfr q7 q4 hsv hck hx hh hterr
  obtain rfl := raw_nt hx
  rcases r3 with r | r | r | r
  ·exact absurd r hz0
  ·exact how_1 (hg.le hle) hnp hz hsv hck hh hterr hhow hat hon ts t2 t4 t7 hdf h7 h4 n74 z7 z4 hgr hfr q7 q4 r
  ·exact how_2 (hg.le hle) hnp hz hsv hck hh hterr hhow hat hon ts t2 t4 t7 hdf h7 h4 n74 z7 z4 hgr hfr q7 q4 r
  ·exact how_3 (hg.le hle) hnp hz hsv hck hh hterr hhow hat hon ts t2 t4 t7 hdf h7 h4 n74 z7 z4 hgr hfr q7 q4 r
theorem law_true {W : World} (hg : Good ⟨W.heap,fun _ => True⟩) {k s0 s1 : Int} (hk : 0 ≤ k ∧ k ≤ 255) (hs0 : -128 ≤ s0 ∧ s0 ≤ 127) (hs1 : -128 ≤ s1 ∧ s1 ≤ 127) {hf half : Bool} {ds : Value} {hv : Nat → Int} (hh : HeightsOk hv) {dds : List (Nat → Int)}
  (hds : DeedsRaw ⟨W.heap,fun _ => True⟩ ds dds) (hdd : ∀ dd ∈ dds,DeedOk dd) {kx at_ how : Int} (hkx : 0 ≤ kx ∧ kx ≤ 255) (hat : 0 ≤ at_ ∧ at_ ≤ 255) (hhow : 0 ≤ how ∧ how ≤ 255) :
  Calls Tryz.prog 3 #[planR k s0 s1 hf half ds hv,slipR kx at_,.int .u8 how] W (LawP W) := by
 have hon : (⟨W.heap,fun _ => True⟩ : Mem).On W := Mem.On.self W _
 have hkn := known_calls hg
 obtain ⟨b,cap,e,hcap,_⟩ := id hds
 by_cases hn : dds.length ≤ 2
 ·obtain ⟨K,hK,eK⟩ := tmod_nat (z := k) (n := 8) (by omega) hk.1
  obtain ⟨t,ht⟩ := mesh_all hK hf
  obtain ⟨l,hl⟩ := dealt ht.np hdd hn
  obtain ⟨te,h1,h2,h3⟩ := terr_all ht.np half
  have t8 : ∀ z : Int,-7 ≤ z.tmod 8 ∧ z.tmod 8 ≤ 7 := fun z => tmod_rg (z := z) (n := 8) (by omega)
  have hX : ∀ m0 m1 M M',M.Le M' → t.X (s0.tmod 8) (s1.tmod 8) m0 m1 M → t.X (s0.tmod 8) (s1.tmod 8) m0 m1 M' := fun _ _ _ _ hle h => MeshRaw.le hle h
  have h30 : ∀ w,(⟨W.heap,fun _ => True⟩ : Mem).On w → Calls Tryz.prog 25 #[.agg #[.int .u8 k,.int .i8 s0,.int .i8 s1,.bool hf,ds]] w (RetM ⟨W.heap,fun _ => True⟩ w (Post30 t.pts.length t.nt (t.X (s0.tmod 8) (s1.tmod 8)))) := fun w hw =>
   make30 hg hX hw (fun w hw => ht.mesh hg hk hs0 hs1 eK hw) hl.few hl.idx hl.shp hl.hox hl.len hl.kin hds hl.run
  have hods : oneV ds := by rw [e]; trivial
  have hm : ∀ w,(⟨W.heap,fun _ => True⟩ : Mem).On w → Calls Tryz.prog 6 #[planR k s0 s1 hf half ds hv] w (RetM ⟨W.heap,fun _ => True⟩ w (Post34 t.pts.length t.nt (t.X (s0.tmod 8) (s1.tmod 8)) (zT half hv))) := fun w hw => by
   have h6 : t.pts.length ≤ 6 := by rcases ht.np with h | h | h | h <;> omega
   have := make34 hg hX hods hh hw h30 h1 h2 h6
   rw [h3] at this
   exact this
  rw [e] at hm ⊢
  exact law_few hg hkx hat hhow hon hkn hn ht (t8 s0) (t8 s1) (fun i _ => zT_bd i) hm
 ·rw [e]
  exact law_many hon hkn (by omega)
end Go.Proofs.YteempkgmaohpnaaGreatDoor
