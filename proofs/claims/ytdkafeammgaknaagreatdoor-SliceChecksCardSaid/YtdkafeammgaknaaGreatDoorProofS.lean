/-
  klippelaw32.SliceChecks: for any planned question (a history of at most 3 events, a frame, a polygon), any change of its history, and any frame and polygon put in their place, the law returns true.
  Conditions: the package-level variables that the row lists hold what the program's text lays (the card ties them); nothing else is asked.
-/
import Derived.Test.YtdkafeammgaknaaGreatDoorRowAS
import Derived.Test.YtdkafeammgaknaaGreatDoorLiftS
import Derived.Test.YtdkafeammgaknaaGreatDoorTie
import Derived.Test.YtdkafeammgaknaaGreatDoorCards
import Derived.SevenTiedAt
set_option linter.unusedSectionVars false
set_option linter.unusedVariables false
set_option linter.unusedSimpArgs false
namespace Go.Proofs.YtdkafeammgaknaaGreatDoor
open Go
set_option maxRecDepth 100000
theorem and_tt {a b : Bool} (h : a = true) (h' : b = true) : (a && b) = true := by rw [h,h']; rfl
theorem and_l {a b : Bool} (h : (a && b) = true) : a = true := (Bool.and_eq_true _ _ ▸ h : a = true ∧ b = true).1
theorem and_r {a b : Bool} (h : (a && b) = true) : b = true := (Bool.and_eq_true _ _ ▸ h : a = true ∧ b = true).2
theorem joined : joinedFacts Tryz.prog 3 Tryz.f3 spcC rowC = true :=
 and_tt (and_tt (and_tt (and_tt (and_tt (and_tt (and_tt (and_tt (and_tt (and_tt (and_tt (and_tt (and_tt (and_tt (and_tt (and_tt (and_tt (and_tt (and_tt (and_tt (and_tt (and_tt (and_tt (and_tt (and_tt (and_tt (and_tt (and_tt (and_tt (and_tt (and_tt j1 j2) j3)
  (and_l (and_l (and_l (and_l (and_l j4)))))) (and_r (and_l (and_l (and_l (and_l j4)))))) (and_r (and_l (and_l (and_l j4))))) (and_r (and_l (and_l j4)))) (and_r (and_l j4))) (and_r j4)) j5) j6) j7) j8) b1) b2) b3) b4) b5) b6) b7) b8) b9) b10) b11) b12) b13) b14) b15) b16) b17) b18) b19
theorem cWf : rowC.wfByText (OpenSpec.ofChange spcC) = true := by kernel_rfl
theorem cMain : Tryz.prog.mainIs = some (true, "844d675a00fb61a968e2761dc54211b188cc7056e92d738c0411eb5b9e0c23cd".toList) := by kernel_rfl
theorem cLooks : true = Tryz.prog.looks [] := by kernel_rfl
theorem cGoes : false = rowC.goesBy Tryz.prog := by kernel_rfl
theorem cStand : ([33,35,36].all fun u => !Tryz.prog.wantsStandIn u) = true := by kernel_rfl
theorem sliceChecks_bare : Rows.SliceChecksSaid :=
 OpenClaim.holds_of_wide 3 Tryz.f3 rfl rfl rfl rfl rfl rfl rfl ⟨rfl,rfl,rfl,rfl,rfl⟩ rfl rfl rfl rfl rfl fNamed Tryz.func3 joined bInst bWrap
  (fun os started H enc _ => lifted os started H enc)
theorem sliceChecks_holds : Rows.SliceChecksCardSaid :=
 Claim7.holds_tied_plain_at .later [] [.data,.data,.data,.sentinel,.sentinel] true (true, "844d675a00fb61a968e2761dc54211b188cc7056e92d738c0411eb5b9e0c23cd") true
  sliceChecks_bare (fun _ h => by cases h) cWf (fun _ h => by cases h) sliceChecks_row_tie rfl ⟨rfl,rfl⟩ cMain rfl
  (fun f fn hf hfn => by
   obtain rfl : f = 3 := Option.some.inj (fNamed.symm.trans hf) |>.symm
   obtain rfl : fn = Tryz.f3 := (Option.some.inj (Tryz.func3.symm.trans hfn)).symm
   exact ⟨cLooks,fun j t ht => by
    have ht : (#[33,35,36] : Array TypeId)[j]? = some t := by rw [← Tryz.params3]; exact ht
    have hm : t ∈ [33,35,36] := by simpa using Array.mem_of_getElem? ht
    exact (show Tryz.prog.wantsStandIn t = false by simpa using List.all_eq_true.1 cStand t hm)⟩)
  cGoes
#print axioms sliceChecks_holds
end Go.Proofs.YtdkafeammgaknaaGreatDoor
