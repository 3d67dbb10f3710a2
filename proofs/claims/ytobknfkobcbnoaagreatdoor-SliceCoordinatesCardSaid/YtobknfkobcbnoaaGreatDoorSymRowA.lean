/-
  The row of SliceCoordinates: its closed facts, one by one.
-/
import Derived.Test.YtobknfkobcbnoaaGreatDoorRows
import Derived.JoinedOf
import Derived.KernelRfl
set_option linter.unusedSectionVars false
set_option linter.unusedVariables false
set_option linter.unusedSimpArgs false
namespace Go.Proofs.YtobknfkobcbnoaaGreatDoor
open Go
set_option maxRecDepth 100000
theorem fNamed : Tryz.prog.funcNamed "klippe/klippelaw32.SliceCoordinates" = some 3 := by kernel_rfl
theorem j1 : Rows.sliceCoordinatesRow.wf (OpenSpec.ofChange Rows.sliceCoordinatesSpec) = true := by kernel_rfl
theorem j2 : laidOutB Tryz.prog = true := by kernel_rfl
theorem j3 : mapsRowed Tryz.prog = true := by kernel_rfl
theorem j4 : (Tryz.f3.params.all (Tryz.prog.readableRec ·) && namedTie Tryz.prog Rows.sliceCoordinatesRow.named Rows.sliceCoordinatesSpec.vars && (Rows.sliceCoordinatesRow.stops == []) && (Tryz.prog.stops == []) && (Rows.sliceCoordinatesRow.knobs == []) && (Tryz.prog.stopKnobs == [])) = true := by kernel_rfl
theorem j5 : (Rows.sliceCoordinatesRow.inPlace == Tryz.prog.inPlace 3) = true := by kernel_rfl
theorem j6 : (Rows.sliceCoordinatesRow.unfollowed == Tryz.prog.unfollowed 3) = true := by kernel_rfl
theorem j7 : (Rows.sliceCoordinatesRow.recurses == Tryz.prog.recurses 3) = true := by kernel_rfl
theorem j8 : (Rows.sliceCoordinatesRow.named == Tryz.prog.varsNamed 3) = true := by kernel_rfl
end Go.Proofs.YtobknfkobcbnoaaGreatDoor
