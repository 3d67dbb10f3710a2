/-
  klippelaw34.OutcropChecks: for any plan with at most 2 events and any change of its history or its terrain, the law returns true.
  Conditions: the package-level variables that the row lists hold what the program's text lays (the card ties them); nothing else is asked.
-/
import Derived.Test.YteempkgmaohpnaaGreatDoorRows
import Derived.JoinedOf
import Derived.KernelRfl
import Derived.Test.YteempkgmaohpnaaGreatDoorLiftC
import Derived.Test.YteempkgmaohpnaaGreatDoorTie
import Derived.Test.YteempkgmaohpnaaGreatDoorCards
import Derived.SevenTiedAt
set_option linter.unusedSectionVars false
set_option linter.unusedVariables false
set_option linter.unusedSimpArgs false
namespace Go.Proofs.YteempkgmaohpnaaGreatDoor
open Go
set_option maxRecDepth 100000
theorem fNamed : Tryz.prog.funcNamed "klippe/klippelaw34.OutcropChecks" = some 3 := by kernel_rfl
theorem j1 : Rows.outcropChecksRow.wf (OpenSpec.ofChange Rows.outcropChecksSpec) = true := by kernel_rfl
theorem j2 : laidOutB Tryz.prog = true := by kernel_rfl
theorem j3 : mapsRowed Tryz.prog = true := by kernel_rfl
theorem j4 : (Tryz.f3.params.all (Tryz.prog.readableRec ·) && namedTie Tryz.prog Rows.outcropChecksRow.named Rows.outcropChecksSpec.vars && (Rows.outcropChecksRow.stops == []) && (Tryz.prog.stops == []) && (Rows.outcropChecksRow.knobs == []) && (Tryz.prog.stopKnobs == [])) = true := by kernel_rfl
theorem j5 : (Rows.outcropChecksRow.inPlace == Tryz.prog.inPlace 3) = true := by kernel_rfl
theorem j6 : (Rows.outcropChecksRow.unfollowed == Tryz.prog.unfollowed 3) = true := by kernel_rfl
theorem j7 : (Rows.outcropChecksRow.recurses == Tryz.prog.recurses 3) = true := by kernel_rfl
theorem j8 : (Rows.outcropChecksRow.named == Tryz.prog.varsNamed 3) = true := by kernel_rfl
end Go.Proofs.YteempkgmaohpnaaGreatDoor
namespace Go.Proofs.YteempkgmaohpnaaGreatDoor
open Go
set_option maxRecDepth 100000
abbrev rowC : OpenClaim := Rows.outcropChecksRow
abbrev spcC : ChangeSpec := Rows.outcropChecksSpec
noncomputable abbrev typesC : List TypeId := Tryz.f3.params.toList ++ spcC.plain.varTypes Tryz.prog
theorem b1 : (rowC.maps == typesC.any (Tryz.prog.mapsRec ·)) = true := by kernel_rfl
theorem b2 : (rowC.ifaces == typesC.any (Tryz.prog.ifacesRec ·)) = true := by kernel_rfl
theorem b3 : (rowC.mapsOut == Tryz.prog.mapsAmong Tryz.f3.resultTypes.toList) = true := by kernel_rfl
theorem b4 : (rowC.loops == typesC.any (Tryz.prog.loopsFrom ·)) = true := by kernel_rfl
theorem b5 : (rowC.wideKeys == (typesC ++ Tryz.f3.resultTypes.toList).any (Tryz.prog.wideKeysFrom ·)) = true := by kernel_rfl
theorem b6 : spcC.vars.all (Tryz.prog.varReadable ·) = true := by kernel_rfl
theorem b7 : Tryz.f3.resultTypes.all (fun t => Tryz.prog.readableRec t && decide (t < Tryz.prog.types.size)) = true := by kernel_rfl
theorem b8 : (rowC.ifacesOut == Tryz.f3.resultTypes.toList.any (Tryz.prog.ifacesRec ·)) = true := by kernel_rfl
theorem b9 : (rowC.loopsOut == Tryz.f3.resultTypes.toList.any (Tryz.prog.loopsFrom ·)) = true := by kernel_rfl
theorem b10 : (rowC.plainKeys == Tryz.prog.plainKeys) = true := by kernel_rfl
theorem b11 : rowC.shortTexts.isNone = true := by kernel_rfl
theorem b12 : Tryz.prog.stopsHeard = true := by kernel_rfl
theorem b13 : Tryz.prog.mayEnter = true := by kernel_rfl
theorem b14 : (rowC.lifted == Tryz.prog.liftsFinal) = true := by kernel_rfl
theorem b15 : (Tryz.prog.make == some rowC.make) = true := by kernel_rfl
theorem b16 : (rowC.kinds == (if rowC.domain.isEmpty then [] else Tryz.f3.params.toList.map fun t => match Tryz.prog.underlying t with | some (.int k) => some k | _ => none)) = true := by kernel_rfl
theorem b17 : (rowC.pinned == rowC.pinnedBy) = true := by kernel_rfl
theorem b18 : (rowC.veiled == (typesC ++ Tryz.f3.resultTypes.toList).any (Tryz.prog.veiledRec ·)) = true := by kernel_rfl
theorem b19 : rowC.veiledFits Tryz.prog Tryz.f3.params.toList (typesC ++ Tryz.f3.resultTypes.toList) = true := by kernel_rfl
theorem bInst : Tryz.f3.isInstance Tryz.prog rowC.origin rowC.targs := of_decide_eq_true (by kernel_rfl)
theorem bWrap : Tryz.f3.isWrapper Tryz.prog rowC.wrapper rowC.mainSum := by
 unfold Func.isWrapper
 first
  | (rw [if_pos (by decide +kernel)]; kernel_rfl)
  | (rw [if_neg (by decide +kernel)]; exact ⟨rfl,rfl⟩)
end Go.Proofs.YteempkgmaohpnaaGreatDoor
namespace Go.Proofs.YteempkgmaohpnaaGreatDoor
open Go
set_option maxRecDepth 100000
theorem and_tt {a b : Bool} (h : a = true) (h' : b = true) : (a && b) = true := by rw [h,h']; rfl
theorem and_l {a b : Bool} (h : (a && b) = true) : a = true := (Bool.and_eq_true _ _ ▸ h : a = true ∧ b = true).1
theorem and_r {a b : Bool} (h : (a && b) = true) : b = true := (Bool.and_eq_true _ _ ▸ h : a = true ∧ b = true).2
theorem joined : joinedFacts Tryz.prog 3 Tryz.f3 spcC rowC = true :=
 and_tt (and_tt (and_tt (and_tt (and_tt (and_tt (and_tt (and_tt (and_tt (and_tt (and_tt (and_tt (and_tt (and_tt (and_tt (and_tt (and_tt (and_tt (and_tt (and_tt (and_tt (and_tt (and_tt (and_tt (and_tt (and_tt (and_tt (and_tt (and_tt (and_tt (and_tt j1 j2) j3)
  (and_l (and_l (and_l (and_l (and_l j4)))))) (and_r (and_l (and_l (and_l (and_l j4)))))) (and_r (and_l (and_l (and_l j4))))) (and_r (and_l (and_l j4)))) (and_r (and_l j4))) (and_r j4)) j5) j6) j7) j8) b1) b2) b3) b4) b5) b6) b7) b8) b9) b10) b11) b12) b13) b14) b15) b16) b17) b18) b19
theorem cWf : rowC.wfByText (OpenSpec.ofChange spcC) = true := by kernel_rfl
theorem cMain : Tryz.prog.mainIs = some (true, "2e38b6a8274f4aef76f38d3a7acdb7d1a78e58050b1d5e6f48185d6d7d2ab5c1".toList) := by kernel_rfl
theorem cLooks : true = Tryz.prog.looks [] := by kernel_rfl
theorem cGoes : false = rowC.goesBy Tryz.prog := by kernel_rfl
theorem cStand : ([33,35,5].all fun u => !Tryz.prog.wantsStandIn u) = true := by kernel_rfl
theorem outcropChecks_bare : Rows.OutcropChecksSaid :=
 OpenClaim.holds_of_wide 3 Tryz.f3 rfl rfl rfl rfl rfl rfl rfl ⟨rfl,rfl,rfl,rfl,rfl⟩ rfl rfl rfl rfl rfl fNamed Tryz.func3 joined bInst bWrap
  (fun os started H enc _ => lifted os started H enc)
theorem outcropChecks_holds : Rows.OutcropChecksCardSaid :=
 Claim7.holds_tied_plain_at .later [] [.data,.data,.data,.sentinel,.sentinel] true (true, "2e38b6a8274f4aef76f38d3a7acdb7d1a78e58050b1d5e6f48185d6d7d2ab5c1") true
  outcropChecks_bare (fun _ h => by cases h) cWf (fun _ h => by cases h) outcropChecks_row_tie rfl ⟨rfl,rfl⟩ cMain rfl
  (fun f fn hf hfn => by
   obtain rfl : f = 3 := Option.some.inj (fNamed.symm.trans hf) |>.symm
   obtain rfl : fn = Tryz.f3 := (Option.some.inj (Tryz.func3.symm.trans hfn)).symm
   exact ⟨cLooks,fun j t ht => by
    have ht : (#[33,35,5] : Array TypeId)[j]? = some t := by rw [← Tryz.params3]; exact ht
    have hm : t ∈ [33,35,5] := by simpa using Array.mem_of_getElem? ht
    exact (show Tryz.prog.wantsStandIn t = false by simpa using List.all_eq_true.1 cStand t hm)⟩)
  cGoes
#print axioms outcropChecks_holds
end Go.Proofs.YteempkgmaohpnaaGreatDoor
