/-
  The row of SliceChecks: its further closed facts.
-/
import Derived.Test.YtdkafeammgaknaaGreatDoorRows
import Derived.JoinedOf
import Derived.KernelRfl
set_option linter.unusedSectionVars false
set_option linter.unusedVariables false
set_option linter.unusedSimpArgs false
namespace Go.Proofs.YtdkafeammgaknaaGreatDoor
open Go
set_option maxRecDepth 100000
theorem fNamed : Tryz.prog.funcNamed "klippe/klippelaw32.SliceChecks" = some 3 := by kernel_rfl
theorem j1 : Rows.sliceChecksRow.wf (OpenSpec.ofChange Rows.sliceChecksSpec) = true := by kernel_rfl
theorem j2 : laidOutB Tryz.prog = true := by kernel_rfl
theorem j3 : mapsRowed Tryz.prog = true := by kernel_rfl
theorem j4 : (Tryz.f3.params.all (Tryz.prog.readableRec ·) && namedTie Tryz.prog Rows.sliceChecksRow.named Rows.sliceChecksSpec.vars && (Rows.sliceChecksRow.stops == []) && (Tryz.prog.stops == []) && (Rows.sliceChecksRow.knobs == []) && (Tryz.prog.stopKnobs == [])) = true := by kernel_rfl
theorem j5 : (Rows.sliceChecksRow.inPlace == Tryz.prog.inPlace 3) = true := by kernel_rfl
theorem j6 : (Rows.sliceChecksRow.unfollowed == Tryz.prog.unfollowed 3) = true := by kernel_rfl
theorem j7 : (Rows.sliceChecksRow.recurses == Tryz.prog.recurses 3) = true := by kernel_rfl
theorem j8 : (Rows.sliceChecksRow.named == Tryz.prog.varsNamed 3) = true := by kernel_rfl
end Go.Proofs.YtdkafeammgaknaaGreatDoor
namespace Go.Proofs.YtdkafeammgaknaaGreatDoor
open Go
set_option maxRecDepth 100000
abbrev rowC : OpenClaim := Rows.sliceChecksRow
abbrev spcC : ChangeSpec := Rows.sliceChecksSpec
noncomputable abbrev typesC : List TypeId := Tryz.f3.params.toList ++ spcC.plain.varTypes Tryz.prog
theorem b1 : (rowC.maps == typesC.any (Tryz.prog.mapsRec ·)) = true := by kernel_rfl
theorem b2 : (rowC.ifaces == typesC.any (Tryz.prog.ifacesRec ·)) = true := by kernel_rfl
theorem b3 : (rowC.mapsOut == Tryz.prog.mapsAmong Tryz.f3.resultTypes.toList) = true := by kernel_rfl
theorem b4 : (rowC.loops == typesC.any (Tryz.prog.loopsFrom ·)) = true := by kernel_rfl
theorem b5 : (rowC.wideKeys == (typesC ++ Tryz.f3.resultTypes.toList).any (Tryz.prog.wideKeysFrom ·)) = true := by kernel_rfl
theorem b6 : spcC.vars.all (Tryz.prog.varReadable ·) = true := by kernel_rfl
theorem b7 : Tryz.f3.resultTypes.all (fun t => Tryz.prog.readableRec t && decide (t < Tryz.prog.types.size)) = true := by kernel_rfl
theorem b8 : (rowC.ifacesOut == Tryz.f3.resultTypes.toList.any (Tryz.prog.ifacesRec ·)) = true := by kernel_rfl
theorem b9 : (rowC.loopsOut == Tryz.f3.resultTypes.toList.any (Tryz.prog.loopsFrom ·)) = true := by kernel_rfl
theorem b10 : (rowC.plainKeys == Tryz.prog.plainKeys) = true := by kernel_rfl
theorem b11 : rowC.shortTexts.isNone = true := by kernel_rfl
theorem b12 : Tryz.prog.stopsHeard = true := by kernel_rfl
theorem b13 : Tryz.prog.mayEnter = true := by kernel_rfl
theorem b14 : (rowC.lifted == Tryz.prog.liftsFinal) = true := by kernel_rfl
theorem b15 : (Tryz.prog.make == some rowC.make) = true := by kernel_rfl
theorem b16 : (rowC.kinds == (if rowC.domain.isEmpty then [] else Tryz.f3.params.toList.map fun t => match Tryz.prog.underlying t with | some (.int k) => some k | _ => none)) = true := by kernel_rfl
theorem b17 : (rowC.pinned == rowC.pinnedBy) = true := by kernel_rfl
theorem b18 : (rowC.veiled == (typesC ++ Tryz.f3.resultTypes.toList).any (Tryz.prog.veiledRec ·)) = true := by kernel_rfl
theorem b19 : rowC.veiledFits Tryz.prog Tryz.f3.params.toList (typesC ++ Tryz.f3.resultTypes.toList) = true := by kernel_rfl
theorem bInst : Tryz.f3.isInstance Tryz.prog rowC.origin rowC.targs := of_decide_eq_true (by kernel_rfl)
theorem bWrap : Tryz.f3.isWrapper Tryz.prog rowC.wrapper rowC.mainSum := by
 unfold Func.isWrapper
 first
  | (rw [if_pos (by decide +kernel)]; kernel_rfl)
  | (rw [if_neg (by decide +kernel)]; exact ⟨rfl,rfl⟩)
end Go.Proofs.YtdkafeammgaknaaGreatDoor
