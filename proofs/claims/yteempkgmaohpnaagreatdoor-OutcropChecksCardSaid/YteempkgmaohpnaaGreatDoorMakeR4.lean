/-
  klippelaw30.Make behind its mesh, at all shapes of at most two deeds over 4 points: the runs.
-/
import Derived.Test.YteempkgmaohpnaaGreatDoorShapeX
set_option linter.unusedSectionVars false
set_option linter.unusedVariables false
set_option linter.unusedSimpArgs false
namespace Go.Proofs.YteempkgmaohpnaaGreatDoor
open Go Ev Klp
set_option maxRecDepth 100000
theorem runsA4 : ((S0 4).all fun a => runM [a]) = true := by kernel_rfl
theorem runsB4 : ((S0 4).all fun a => (S1 4).all fun b => runM [a,b]) = true := by kernel_rfl
end Go.Proofs.YteempkgmaohpnaaGreatDoor
