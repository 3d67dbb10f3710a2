/-
  The shapes of deeds: their events with a change.
-/
import Derived.Test.YteempkgmaohpnaaGreatDoorMakeZ
import Derived.Test.YteempkgmaohpnaaGreatDoorDealE
import Derived.Test.YteempkgmaohpnaaGreatDoorDealF
import Derived.Test.YteempkgmaohpnaaGreatDoorDealO
import Derived.Test.YteempkgmaohpnaaGreatDoorDealP
set_option linter.unusedSectionVars false
set_option linter.unusedVariables false
set_option linter.unusedSimpArgs false
namespace Go.Proofs.YteempkgmaohpnaaGreatDoor
open Go Ev Klp
noncomputable def depS0 (np : Nat) : List DealT := match np with
 | 3 => [dl1_0_3 0,dl1_1_3 0,dl1_2_3 0]
 | 4 => [dl1_0_4 0,dl1_1_4 0,dl1_2_4 0]
 | 5 => [dl1_0_5 0,dl1_1_5 0,dl1_2_5 0]
 | 6 => [dl1_0_6 0,dl1_1_6 0,dl1_2_6 0]
 | _ => []
noncomputable def S0 (np : Nat) : List DealT := [dl2_0 0 np,dl4_0 0 np,dl3_0 0 np,dl3_1 0 np,dl3_2 0 np,dl3_3 0 np,dl3_4 0 np,dl3_5 0 np,dl5_0 0 np,dl5_1 0 np,dl5_2 0 np,dl5_3 0 np,dl5_4 0 np,dl5_5 0 np] ++ depS0 np
noncomputable def depS1 (np : Nat) : List DealT := match np with
 | 3 => [dl1_0_3 1,dl1_1_3 1,dl1_2_3 1]
 | 4 => [dl1_0_4 1,dl1_1_4 1,dl1_2_4 1]
 | 5 => [dl1_0_5 1,dl1_1_5 1,dl1_2_5 1]
 | 6 => [dl1_0_6 1,dl1_1_6 1,dl1_2_6 1]
 | _ => []
noncomputable def S1 (np : Nat) : List DealT := [dl2_0 1 np,dl4_0 1 np,dl3_0 1 np,dl3_1 1 np,dl3_2 1 np,dl3_3 1 np,dl3_4 1 np,dl3_5 1 np,dl5_0 1 np,dl5_1 1 np,dl5_2 1 np,dl5_3 1 np,dl5_4 1 np,dl5_5 1 np] ++ depS1 np
def goodNp (n : Nat) : Prop := n = 3 ∨ n = 4 ∨ n = 5 ∨ n = 6
theorem S0_ok {np : Nat} (hn : goodNp np) : ∀ d ∈ S0 np,d.e = 0 ∧ d.np = np ∧ d.ok = true := by
 intro d hd
 simp only [S0,List.mem_append,List.mem_cons,List.not_mem_nil,or_false] at hd
 rcases hd with (rfl | rfl | rfl | rfl | rfl | rfl | rfl | rfl | rfl | rfl | rfl | rfl | rfl | rfl) | hd
 ·exact ⟨rfl,rfl,ok2_0_0 np⟩
 ·exact ⟨rfl,rfl,ok4_0_0 np⟩
 ·exact ⟨rfl,rfl,ok3_0_0 np⟩
 ·exact ⟨rfl,rfl,ok3_1_0 np⟩
 ·exact ⟨rfl,rfl,ok3_2_0 np⟩
 ·exact ⟨rfl,rfl,ok3_3_0 np⟩
 ·exact ⟨rfl,rfl,ok3_4_0 np⟩
 ·exact ⟨rfl,rfl,ok3_5_0 np⟩
 ·exact ⟨rfl,rfl,ok5_0_0 np⟩
 ·exact ⟨rfl,rfl,ok5_1_0 np⟩
 ·exact ⟨rfl,rfl,ok5_2_0 np⟩
 ·exact ⟨rfl,rfl,ok5_3_0 np⟩
 ·exact ⟨rfl,rfl,ok5_4_0 np⟩
 ·exact ⟨rfl,rfl,ok5_5_0 np⟩
 ·rcases hn with rfl | rfl | rfl | rfl
  ·simp only [depS0,List.mem_cons,List.not_mem_nil,or_false] at hd
   rcases hd with rfl | rfl | rfl
   ·exact ⟨rfl,rfl,ok1_0_3_0⟩
   ·exact ⟨rfl,rfl,ok1_1_3_0⟩
   ·exact ⟨rfl,rfl,ok1_2_3_0⟩
  ·simp only [depS0,List.mem_cons,List.not_mem_nil,or_false] at hd
   rcases hd with rfl | rfl | rfl
   ·exact ⟨rfl,rfl,ok1_0_4_0⟩
   ·exact ⟨rfl,rfl,ok1_1_4_0⟩
   ·exact ⟨rfl,rfl,ok1_2_4_0⟩
  ·simp only [depS0,List.mem_cons,List.not_mem_nil,or_false] at hd
   rcases hd with rfl | rfl | rfl
   ·exact ⟨rfl,rfl,ok1_0_5_0⟩
   ·exact ⟨rfl,rfl,ok1_1_5_0⟩
   ·exact ⟨rfl,rfl,ok1_2_5_0⟩
  ·simp only [depS0,List.mem_cons,List.not_mem_nil,or_false] at hd
   rcases hd with rfl | rfl | rfl
   ·exact ⟨rfl,rfl,ok1_0_6_0⟩
   ·exact ⟨rfl,rfl,ok1_1_6_0⟩
   ·exact ⟨rfl,rfl,ok1_2_6_0⟩
theorem S0_has {np : Nat} (hn : goodNp np) {kind sub : Nat} (h : (kind = 2 ∧ sub = 0) ∨ (kind = 4 ∧ sub = 0) ∨ (kind = 3 ∧ sub < 6) ∨ (kind = 5 ∧ sub < 6) ∨ (kind = 1 ∧ sub < 3)) : ∃ d ∈ S0 np,d.kind = kind ∧ d.sub = sub := by
 have mem : ∀ (i : Nat) (d : DealT),(S0 np)[i]? = some d → d ∈ S0 np := fun i d h => List.mem_of_getElem? h
 rcases h with ⟨rfl,rfl⟩ | ⟨rfl,rfl⟩ | ⟨rfl,hs⟩ | ⟨rfl,hs⟩ | ⟨rfl,hs⟩
 ·exact ⟨_,mem 0 _ rfl,rfl,rfl⟩
 ·exact ⟨_,mem 1 _ rfl,rfl,rfl⟩
 ·have : sub = 0 ∨ sub = 1 ∨ sub = 2 ∨ sub = 3 ∨ sub = 4 ∨ sub = 5 := by omega
  rcases this with rfl | rfl | rfl | rfl | rfl | rfl
  ·exact ⟨_,mem 2 _ rfl,rfl,rfl⟩
  ·exact ⟨_,mem 3 _ rfl,rfl,rfl⟩
  ·exact ⟨_,mem 4 _ rfl,rfl,rfl⟩
  ·exact ⟨_,mem 5 _ rfl,rfl,rfl⟩
  ·exact ⟨_,mem 6 _ rfl,rfl,rfl⟩
  ·exact ⟨_,mem 7 _ rfl,rfl,rfl⟩
 ·have : sub = 0 ∨ sub = 1 ∨ sub = 2 ∨ sub = 3 ∨ sub = 4 ∨ sub = 5 := by omega
  rcases this with rfl | rfl | rfl | rfl | rfl | rfl
  ·exact ⟨_,mem 8 _ rfl,rfl,rfl⟩
  ·exact ⟨_,mem 9 _ rfl,rfl,rfl⟩
  ·exact ⟨_,mem 10 _ rfl,rfl,rfl⟩
  ·exact ⟨_,mem 11 _ rfl,rfl,rfl⟩
  ·exact ⟨_,mem 12 _ rfl,rfl,rfl⟩
  ·exact ⟨_,mem 13 _ rfl,rfl,rfl⟩
 ·have : sub = 0 ∨ sub = 1 ∨ sub = 2 := by omega
  rcases hn with rfl | rfl | rfl | rfl <;> rcases this with rfl | rfl | rfl
  ·exact ⟨_,mem 14 _ rfl,rfl,rfl⟩
  ·exact ⟨_,mem 15 _ rfl,rfl,rfl⟩
  ·exact ⟨_,mem 16 _ rfl,rfl,rfl⟩
  ·exact ⟨_,mem 14 _ rfl,rfl,rfl⟩
  ·exact ⟨_,mem 15 _ rfl,rfl,rfl⟩
  ·exact ⟨_,mem 16 _ rfl,rfl,rfl⟩
  ·exact ⟨_,mem 14 _ rfl,rfl,rfl⟩
  ·exact ⟨_,mem 15 _ rfl,rfl,rfl⟩
  ·exact ⟨_,mem 16 _ rfl,rfl,rfl⟩
  ·exact ⟨_,mem 14 _ rfl,rfl,rfl⟩
  ·exact ⟨_,mem 15 _ rfl,rfl,rfl⟩
  ·exact ⟨_,mem 16 _ rfl,rfl,rfl⟩
theorem S1_ok {np : Nat} (hn : goodNp np) : ∀ d ∈ S1 np,d.e = 1 ∧ d.np = np ∧ d.ok = true := by
 intro d hd
 simp only [S1,List.mem_append,List.mem_cons,List.not_mem_nil,or_false] at hd
 rcases hd with (rfl | rfl | rfl | rfl | rfl | rfl | rfl | rfl | rfl | rfl | rfl | rfl | rfl | rfl) | hd
 ·exact ⟨rfl,rfl,ok2_0_1 np⟩
 ·exact ⟨rfl,rfl,ok4_0_1 np⟩
 ·exact ⟨rfl,rfl,ok3_0_1 np⟩
 ·exact ⟨rfl,rfl,ok3_1_1 np⟩
 ·exact ⟨rfl,rfl,ok3_2_1 np⟩
 ·exact ⟨rfl,rfl,ok3_3_1 np⟩
 ·exact ⟨rfl,rfl,ok3_4_1 np⟩
 ·exact ⟨rfl,rfl,ok3_5_1 np⟩
 ·exact ⟨rfl,rfl,ok5_0_1 np⟩
 ·exact ⟨rfl,rfl,ok5_1_1 np⟩
 ·exact ⟨rfl,rfl,ok5_2_1 np⟩
 ·exact ⟨rfl,rfl,ok5_3_1 np⟩
 ·exact ⟨rfl,rfl,ok5_4_1 np⟩
 ·exact ⟨rfl,rfl,ok5_5_1 np⟩
 ·rcases hn with rfl | rfl | rfl | rfl
  ·simp only [depS1,List.mem_cons,List.not_mem_nil,or_false] at hd
   rcases hd with rfl | rfl | rfl
   ·exact ⟨rfl,rfl,ok1_0_3_1⟩
   ·exact ⟨rfl,rfl,ok1_1_3_1⟩
   ·exact ⟨rfl,rfl,ok1_2_3_1⟩
  ·simp only [depS1,List.mem_cons,List.not_mem_nil,or_false] at hd
   rcases hd with rfl | rfl | rfl
   ·exact ⟨rfl,rfl,ok1_0_4_1⟩
   ·exact ⟨rfl,rfl,ok1_1_4_1⟩
   ·exact ⟨rfl,rfl,ok1_2_4_1⟩
  ·simp only [depS1,List.mem_cons,List.not_mem_nil,or_false] at hd
   rcases hd with rfl | rfl | rfl
   ·exact ⟨rfl,rfl,ok1_0_5_1⟩
   ·exact ⟨rfl,rfl,ok1_1_5_1⟩
   ·exact ⟨rfl,rfl,ok1_2_5_1⟩
  ·simp only [depS1,List.mem_cons,List.not_mem_nil,or_false] at hd
   rcases hd with rfl | rfl | rfl
   ·exact ⟨rfl,rfl,ok1_0_6_1⟩
   ·exact ⟨rfl,rfl,ok1_1_6_1⟩
   ·exact ⟨rfl,rfl,ok1_2_6_1⟩
theorem S1_has {np : Nat} (hn : goodNp np) {kind sub : Nat} (h : (kind = 2 ∧ sub = 0) ∨ (kind = 4 ∧ sub = 0) ∨ (kind = 3 ∧ sub < 6) ∨ (kind = 5 ∧ sub < 6) ∨ (kind = 1 ∧ sub < 3)) : ∃ d ∈ S1 np,d.kind = kind ∧ d.sub = sub := by
 have mem : ∀ (i : Nat) (d : DealT),(S1 np)[i]? = some d → d ∈ S1 np := fun i d h => List.mem_of_getElem? h
 rcases h with ⟨rfl,rfl⟩ | ⟨rfl,rfl⟩ | ⟨rfl,hs⟩ | ⟨rfl,hs⟩ | ⟨rfl,hs⟩
 ·exact ⟨_,mem 0 _ rfl,rfl,rfl⟩
 ·exact ⟨_,mem 1 _ rfl,rfl,rfl⟩
 ·have : sub = 0 ∨ sub = 1 ∨ sub = 2 ∨ sub = 3 ∨ sub = 4 ∨ sub = 5 := by omega
  rcases this with rfl | rfl | rfl | rfl | rfl | rfl
  ·exact ⟨_,mem 2 _ rfl,rfl,rfl⟩
  ·exact ⟨_,mem 3 _ rfl,rfl,rfl⟩
  ·exact ⟨_,mem 4 _ rfl,rfl,rfl⟩
  ·exact ⟨_,mem 5 _ rfl,rfl,rfl⟩
  ·exact ⟨_,mem 6 _ rfl,rfl,rfl⟩
  ·exact ⟨_,mem 7 _ rfl,rfl,rfl⟩
 ·have : sub = 0 ∨ sub = 1 ∨ sub = 2 ∨ sub = 3 ∨ sub = 4 ∨ sub = 5 := by omega
  rcases this with rfl | rfl | rfl | rfl | rfl | rfl
  ·exact ⟨_,mem 8 _ rfl,rfl,rfl⟩
  ·exact ⟨_,mem 9 _ rfl,rfl,rfl⟩
  ·exact ⟨_,mem 10 _ rfl,rfl,rfl⟩
  ·exact ⟨_,mem 11 _ rfl,rfl,rfl⟩
  ·exact ⟨_,mem 12 _ rfl,rfl,rfl⟩
  ·exact ⟨_,mem 13 _ rfl,rfl,rfl⟩
 ·have : sub = 0 ∨ sub = 1 ∨ sub = 2 := by omega
  rcases hn with rfl | rfl | rfl | rfl <;> rcases this with rfl | rfl | rfl
  ·exact ⟨_,mem 14 _ rfl,rfl,rfl⟩
  ·exact ⟨_,mem 15 _ rfl,rfl,rfl⟩
  ·exact ⟨_,mem 16 _ rfl,rfl,rfl⟩
  ·exact ⟨_,mem 14 _ rfl,rfl,rfl⟩
  ·exact ⟨_,mem 15 _ rfl,rfl,rfl⟩
  ·exact ⟨_,mem 16 _ rfl,rfl,rfl⟩
  ·exact ⟨_,mem 14 _ rfl,rfl,rfl⟩
  ·exact ⟨_,mem 15 _ rfl,rfl,rfl⟩
  ·exact ⟨_,mem 16 _ rfl,rfl,rfl⟩
  ·exact ⟨_,mem 14 _ rfl,rfl,rfl⟩
  ·exact ⟨_,mem 15 _ rfl,rfl,rfl⟩
  ·exact ⟨_,mem 16 _ rfl,rfl,rfl⟩
end Go.Proofs.YteempkgmaohpnaaGreatDoor
namespace Go.Proofs.YteempkgmaohpnaaGreatDoor
open Go Ev Klp
theorem S0_okX {np : Nat} (hn : goodNp np) : ∀ d ∈ S0 np,d.okX = true ∧ shKind (shOf d.kind d.sub) = d.kind := by
 intro d hd
 simp only [S0,List.mem_append,List.mem_cons,List.not_mem_nil,or_false] at hd
 rcases hd with (rfl | rfl | rfl | rfl | rfl | rfl | rfl | rfl | rfl | rfl | rfl | rfl | rfl | rfl) | hd
 ·exact ⟨okX2_0_0 np,rfl⟩
 ·exact ⟨okX4_0_0 np,rfl⟩
 ·exact ⟨okX3_0_0 np,rfl⟩
 ·exact ⟨okX3_1_0 np,rfl⟩
 ·exact ⟨okX3_2_0 np,rfl⟩
 ·exact ⟨okX3_3_0 np,rfl⟩
 ·exact ⟨okX3_4_0 np,rfl⟩
 ·exact ⟨okX3_5_0 np,rfl⟩
 ·exact ⟨okX5_0_0 np,rfl⟩
 ·exact ⟨okX5_1_0 np,rfl⟩
 ·exact ⟨okX5_2_0 np,rfl⟩
 ·exact ⟨okX5_3_0 np,rfl⟩
 ·exact ⟨okX5_4_0 np,rfl⟩
 ·exact ⟨okX5_5_0 np,rfl⟩
 ·rcases hn with rfl | rfl | rfl | rfl
  ·simp only [depS0,List.mem_cons,List.not_mem_nil,or_false] at hd
   rcases hd with rfl | rfl | rfl
   ·exact ⟨okX1_0_3_0,rfl⟩
   ·exact ⟨okX1_1_3_0,rfl⟩
   ·exact ⟨okX1_2_3_0,rfl⟩
  ·simp only [depS0,List.mem_cons,List.not_mem_nil,or_false] at hd
   rcases hd with rfl | rfl | rfl
   ·exact ⟨okX1_0_4_0,rfl⟩
   ·exact ⟨okX1_1_4_0,rfl⟩
   ·exact ⟨okX1_2_4_0,rfl⟩
  ·simp only [depS0,List.mem_cons,List.not_mem_nil,or_false] at hd
   rcases hd with rfl | rfl | rfl
   ·exact ⟨okX1_0_5_0,rfl⟩
   ·exact ⟨okX1_1_5_0,rfl⟩
   ·exact ⟨okX1_2_5_0,rfl⟩
  ·simp only [depS0,List.mem_cons,List.not_mem_nil,or_false] at hd
   rcases hd with rfl | rfl | rfl
   ·exact ⟨okX1_0_6_0,rfl⟩
   ·exact ⟨okX1_1_6_0,rfl⟩
   ·exact ⟨okX1_2_6_0,rfl⟩
theorem S1_okX {np : Nat} (hn : goodNp np) : ∀ d ∈ S1 np,d.okX = true ∧ shKind (shOf d.kind d.sub) = d.kind := by
 intro d hd
 simp only [S1,List.mem_append,List.mem_cons,List.not_mem_nil,or_false] at hd
 rcases hd with (rfl | rfl | rfl | rfl | rfl | rfl | rfl | rfl | rfl | rfl | rfl | rfl | rfl | rfl) | hd
 ·exact ⟨okX2_0_1 np,rfl⟩
 ·exact ⟨okX4_0_1 np,rfl⟩
 ·exact ⟨okX3_0_1 np,rfl⟩
 ·exact ⟨okX3_1_1 np,rfl⟩
 ·exact ⟨okX3_2_1 np,rfl⟩
 ·exact ⟨okX3_3_1 np,rfl⟩
 ·exact ⟨okX3_4_1 np,rfl⟩
 ·exact ⟨okX3_5_1 np,rfl⟩
 ·exact ⟨okX5_0_1 np,rfl⟩
 ·exact ⟨okX5_1_1 np,rfl⟩
 ·exact ⟨okX5_2_1 np,rfl⟩
 ·exact ⟨okX5_3_1 np,rfl⟩
 ·exact ⟨okX5_4_1 np,rfl⟩
 ·exact ⟨okX5_5_1 np,rfl⟩
 ·rcases hn with rfl | rfl | rfl | rfl
  ·simp only [depS1,List.mem_cons,List.not_mem_nil,or_false] at hd
   rcases hd with rfl | rfl | rfl
   ·exact ⟨okX1_0_3_1,rfl⟩
   ·exact ⟨okX1_1_3_1,rfl⟩
   ·exact ⟨okX1_2_3_1,rfl⟩
  ·simp only [depS1,List.mem_cons,List.not_mem_nil,or_false] at hd
   rcases hd with rfl | rfl | rfl
   ·exact ⟨okX1_0_4_1,rfl⟩
   ·exact ⟨okX1_1_4_1,rfl⟩
   ·exact ⟨okX1_2_4_1,rfl⟩
  ·simp only [depS1,List.mem_cons,List.not_mem_nil,or_false] at hd
   rcases hd with rfl | rfl | rfl
   ·exact ⟨okX1_0_5_1,rfl⟩
   ·exact ⟨okX1_1_5_1,rfl⟩
   ·exact ⟨okX1_2_5_1,rfl⟩
  ·simp only [depS1,List.mem_cons,List.not_mem_nil,or_false] at hd
   rcases hd with rfl | rfl | rfl
   ·exact ⟨okX1_0_6_1,rfl⟩
   ·exact ⟨okX1_1_6_1,rfl⟩
   ·exact ⟨okX1_2_6_1,rfl⟩
end Go.Proofs.YteempkgmaohpnaaGreatDoor
