/-
  The row of SectionChecks: its closed facts, one by one.
-/
import Derived.Test.YtogialghppmdfaaGreatDoorRows
import Derived.JoinedOf
import Derived.KernelRfl
set_option linter.unusedSectionVars false
set_option linter.unusedVariables false
set_option linter.unusedSimpArgs false
namespace Go.Proofs.YtogialghppmdfaaGreatDoor
open Go
set_option maxRecDepth 100000
theorem fNamed:Tryz.prog.funcNamed "klippe/klippelaw37.SectionChecks" = some 3:=by kernel_rfl
theorem j1:Rows.sectionChecksRow.wf (OpenSpec.ofChange Rows.sectionChecksSpec)=true:=by kernel_rfl
theorem j2:laidOutB Tryz.prog=true:=by kernel_rfl
theorem j3:mapsRowed Tryz.prog=true:=by kernel_rfl
theorem j4:(Tryz.f3.params.all (Tryz.prog.readableRec ·)&&namedTie Tryz.prog Rows.sectionChecksRow.named Rows.sectionChecksSpec.vars&&(Rows.sectionChecksRow.stops == [])&&(Tryz.prog.stops == [])&&(Rows.sectionChecksRow.knobs == [])&&(Tryz.prog.stopKnobs == []))=true:=by kernel_rfl
theorem j5:(Rows.sectionChecksRow.inPlace == Tryz.prog.inPlace 3)=true:=by kernel_rfl
theorem j6:(Rows.sectionChecksRow.unfollowed == Tryz.prog.unfollowed 3)=true:=by kernel_rfl
theorem j7:(Rows.sectionChecksRow.recurses == Tryz.prog.recurses 3)=true:=by kernel_rfl
theorem j8:(Rows.sectionChecksRow.named == Tryz.prog.varsNamed 3)=true:=by kernel_rfl
end Go.Proofs.YtogialghppmdfaaGreatDoor
