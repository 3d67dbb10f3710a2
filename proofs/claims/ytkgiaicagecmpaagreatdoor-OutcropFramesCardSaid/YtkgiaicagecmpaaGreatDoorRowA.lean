/-
  The row of OutcropFrames: its closed facts, one by one.
-/
import Derived.Test.YtkgiaicagecmpaaGreatDoorRows
import Derived.JoinedOf
import Derived.KernelRfl
set_option linter.unusedSectionVars false
set_option linter.unusedVariables false
set_option linter.unusedSimpArgs false
namespace Go.Proofs.YtkgiaicagecmpaaGreatDoor
open Go
set_option maxRecDepth 100000
theorem fNamed : Tryz.prog.funcNamed "klippe/klippelaw34.OutcropFrames" = some 3 := by kernel_rfl
theorem j1 : Rows.outcropFramesRow.wf (OpenSpec.ofChange Rows.outcropFramesSpec) = true := by kernel_rfl
theorem j2 : laidOutB Tryz.prog = true := by kernel_rfl
theorem j3 : mapsRowed Tryz.prog = true := by kernel_rfl
theorem j4 : (Tryz.f3.params.all (Tryz.prog.readableRec ·) && namedTie Tryz.prog Rows.outcropFramesRow.named Rows.outcropFramesSpec.vars && (Rows.outcropFramesRow.stops == []) && (Tryz.prog.stops == []) && (Rows.outcropFramesRow.knobs == []) && (Tryz.prog.stopKnobs == [])) = true := by kernel_rfl
theorem j5 : (Rows.outcropFramesRow.inPlace == Tryz.prog.inPlace 3) = true := by kernel_rfl
theorem j6 : (Rows.outcropFramesRow.unfollowed == Tryz.prog.unfollowed 3) = true := by kernel_rfl
theorem j7 : (Rows.outcropFramesRow.recurses == Tryz.prog.recurses 3) = true := by kernel_rfl
theorem j8 : (Rows.outcropFramesRow.named == Tryz.prog.varsNamed 3) = true := by kernel_rfl
end Go.Proofs.YtkgiaicagecmpaaGreatDoor
