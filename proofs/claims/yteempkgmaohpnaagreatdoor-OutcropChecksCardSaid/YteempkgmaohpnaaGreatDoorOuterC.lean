/-
  mesh.outer at twelve sides, six of them outer ones: a kept call.
-/
import Derived.Test.YteempkgmaohpnaaGreatDoorOuterB
set_option linter.unusedSectionVars false
set_option linter.unusedVariables false
set_option linter.unusedSimpArgs false
namespace Go.Proofs.YteempkgmaohpnaaGreatDoor
open Go Ev Klp
set_option maxRecDepth 100000
theorem outer_end : endB tb0 cxOu kO Tryz.f105 rmO (iter (code cxOu kO.b) sO0 9993 lO7 []) = true := by kernel_rfl
theorem outer_rm {w0 : Base} (hp : Pow w0) : RmOk Tryz.prog w0 105 rmO := by
 refine rm_ok (tb := tb0) tabOk (fnOk hp) (rounds := 10000) (n := 60) (rm_cut (k := kO) (s := sO0) (fn := Tryz.f105) (by kernel_rfl) outer_body outer_pre ?_)
 have e1 := cutB_ok (k := 9995) outer_5
 have e2 := cutB_ok (k := 9993) outer_7
 have e : iter (code cxOu kO.b) sO0 10000 [sO0] [] = iter (code cxOu kO.b) sO0 9993 lO7 [] := e1.trans e2
 have h := outer_end
 rw [← e] at h
 exact h
end Go.Proofs.YteempkgmaohpnaaGreatDoor
