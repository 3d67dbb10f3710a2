/-
  mesh.outer at twelve sides, six of them outer ones: a kept call.
-/
import Derived.Test.YtkjinnjopoehhaaGreatDoorCaseX
import Derived.Test.YtkjinnjopoehhaaGreatDoorEvMemo
set_option linter.unusedSectionVars false
set_option linter.unusedVariables false
set_option linter.unusedSimpArgs false
namespace Go.Proofs.YtkjinnjopoehhaaGreatDoor
open Go Ev Klp
set_option maxRecDepth 100000
noncomputable def rmO:RM:=⟨[.agg [.slice 32 0 6 13,.slice 33 0 4 8],.map 64],[.map [(.agg [.int .i64 (0),.int .i64 (1)],.int .i64 (0)),(.agg [.int .i64 (0),.int .i64 (4)],.int .i64 (1)),(.agg [.int .i64 (1),.int .i64 (2)],.int .i64 (2)),(.agg [.int .i64 (1),.int .i64 (4)],.int .i64 (0)),(.agg [.int .i64 (1),.int .i64 (5)],.int .i64 (3)),(.agg [.int .i64 (2),.int .i64 (5)],.int .i64 (2)),(.agg [.int .i64 (3),.int .i64 (0)],.int .i64 (1)),(.agg [.int .i64 (4),.int .i64 (0)],.int .i64 (0)),(.agg [.int .i64 (4),.int .i64 (1)],.int .i64 (3)),(.agg [.int .i64 (4),.int .i64 (3)],.int .i64 (1)),(.agg [.int .i64 (5),.int .i64 (1)],.int .i64 (2)),(.agg [.int .i64 (5),.int .i64 (4)],.int .i64 (3))] none],.tup [.slice 91 0 6 13,.bool true],[(91,.cells [.int .i64 (0),.int .i64 (1),.int .i64 (2),.int .i64 (5),.int .i64 (4),.int .i64 (3)] 3 1 false)],27⟩
noncomputable def cxOu:Ctx:={ tb:=tb0,rc:=recN tb0 10000 59,inRound:=none,rounds:=10000 }
noncomputable def kO:Cut:=cutOf (Tryz.f174.body.getD .skip)
def eO (a b c:Int):V × V:=(.agg [.int .i64 a,.int .i64 b],.int .i64 c)
def nO (a b:Int):V × V:=(.int .i64 a,.int .i64 b)
noncomputable def sO (first:Int) (must:List (V × V)) (k:Nat) (nx:List (V × V)) (n:Nat):S:=⟨(.n (.n (.n (.n .e (some (.int .i64 first)) .e) none (.n (.n .e (some (.ptr 67 0)) .e) none .e)) (some (.map 64)) (.n (.n (.n .e (some (.map 66)) .e) none .e) (some (.bool false)) .e)) (some (.agg [.slice 32 0 6 13,.slice 33 0 4 8])) (.n (.n .e (some (.nils)) .e) (some (.ptr 65 0)) (.n (.n (.n .e (some (.map 64)) .e) none .e) (some (.map 66)) .e))),(.n (.n (.n .e none (.n (.n (.n (.n .e (some (.iter 64 ⟨must,[(.agg [.int .i64 (0),.int .i64 (4)],.int .i64 (1)),(.agg [.int .i64 (1),.int .i64 (4)],.int .i64 (0)),(.agg [.int .i64 (1),.int .i64 (5)],.int .i64 (3)),(.agg [.int .i64 (4),.int .i64 (0)],.int .i64 (0)),(.agg [.int .i64 (4),.int .i64 (1)],.int .i64 (3)),(.agg [.int .i64 (5),.int .i64 (1)],.int .i64 (2))],k⟩ none)) .e) none .e) none .e) none .e)) none (.n (.n (.n (.n (.n .e (some (.cells [.slice 32 0 6 13,.slice 33 0 4 8] 39 0 false)) .e) none .e) none .e) none .e) none .e)) none (.n (.n (.n (.n (.n (.n .e (some (.map [(.agg [.int .i64 (0),.int .i64 (1)],.int .i64 (0)),(.agg [.int .i64 (0),.int .i64 (4)],.int .i64 (1)),(.agg [.int .i64 (1),.int .i64 (2)],.int .i64 (2)),(.agg [.int .i64 (1),.int .i64 (4)],.int .i64 (0)),(.agg [.int .i64 (1),.int .i64 (5)],.int .i64 (3)),(.agg [.int .i64 (2),.int .i64 (5)],.int .i64 (2)),(.agg [.int .i64 (3),.int .i64 (0)],.int .i64 (1)),(.agg [.int .i64 (4),.int .i64 (0)],.int .i64 (0)),(.agg [.int .i64 (4),.int .i64 (1)],.int .i64 (3)),(.agg [.int .i64 (4),.int .i64 (3)],.int .i64 (1)),(.agg [.int .i64 (5),.int .i64 (1)],.int .i64 (2)),(.agg [.int .i64 (5),.int .i64 (4)],.int .i64 (3))] (some 67))) .e) none .e) none .e) none .e) none .e) none (.n (.n (.n (.n (.n .e (some (.map nx none)) .e) none .e) none .e) none .e) none .e))),n,[]⟩
noncomputable def sO0:S:=(sO (-1) [(eO 0 1 0),(eO 1 2 2),(eO 2 5 2),(eO 3 0 1),(eO 4 3 1),(eO 5 4 3)] 6 [] 68)
theorem outer_body:Tryz.f174.body=some kO.body:=rfl
theorem outer_pre:preB cxOu kO Tryz.f174 rmO sO0=true:=by kernel_rfl
noncomputable def lO5:List S:=[(sO (0) [(eO 5 4 3)] 6 [(nO 0 1),(nO 1 2),(nO 2 5),(nO 3 0),(nO 4 3)] 73),
 (sO (0) [(eO 4 3 1)] 6 [(nO 0 1),(nO 1 2),(nO 2 5),(nO 3 0),(nO 5 4)] 73),
 (sO (0) [(eO 3 0 1)] 6 [(nO 0 1),(nO 1 2),(nO 2 5),(nO 4 3),(nO 5 4)] 73),
 (sO (0) [(eO 2 5 2)] 6 [(nO 0 1),(nO 1 2),(nO 3 0),(nO 4 3),(nO 5 4)] 73),
 (sO (0) [(eO 1 2 2)] 6 [(nO 0 1),(nO 2 5),(nO 3 0),(nO 4 3),(nO 5 4)] 73),
 (sO (1) [(eO 0 1 0)] 6 [(nO 1 2),(nO 2 5),(nO 3 0),(nO 4 3),(nO 5 4)] 73),
 (sO (0) [(eO 4 3 1),(eO 5 4 3)] 5 [(nO 0 1),(nO 1 2),(nO 2 5),(nO 3 0)] 73),
 (sO (0) [(eO 3 0 1),(eO 5 4 3)] 5 [(nO 0 1),(nO 1 2),(nO 2 5),(nO 4 3)] 73),
 (sO (0) [(eO 2 5 2),(eO 5 4 3)] 5 [(nO 0 1),(nO 1 2),(nO 3 0),(nO 4 3)] 73),
 (sO (0) [(eO 1 2 2),(eO 5 4 3)] 5 [(nO 0 1),(nO 2 5),(nO 3 0),(nO 4 3)] 73),
 (sO (1) [(eO 0 1 0),(eO 5 4 3)] 5 [(nO 1 2),(nO 2 5),(nO 3 0),(nO 4 3)] 73),
 (sO (0) [(eO 3 0 1),(eO 4 3 1)] 5 [(nO 0 1),(nO 1 2),(nO 2 5),(nO 5 4)] 73),
 (sO (0) [(eO 2 5 2),(eO 4 3 1)] 5 [(nO 0 1),(nO 1 2),(nO 3 0),(nO 5 4)] 73),
 (sO (0) [(eO 1 2 2),(eO 4 3 1)] 5 [(nO 0 1),(nO 2 5),(nO 3 0),(nO 5 4)] 73),
 (sO (1) [(eO 0 1 0),(eO 4 3 1)] 5 [(nO 1 2),(nO 2 5),(nO 3 0),(nO 5 4)] 73),
 (sO (0) [(eO 2 5 2),(eO 3 0 1)] 5 [(nO 0 1),(nO 1 2),(nO 4 3),(nO 5 4)] 73),
 (sO (0) [(eO 1 2 2),(eO 3 0 1)] 5 [(nO 0 1),(nO 2 5),(nO 4 3),(nO 5 4)] 73),
 (sO (1) [(eO 0 1 0),(eO 3 0 1)] 5 [(nO 1 2),(nO 2 5),(nO 4 3),(nO 5 4)] 73),
 (sO (0) [(eO 1 2 2),(eO 2 5 2)] 5 [(nO 0 1),(nO 3 0),(nO 4 3),(nO 5 4)] 73),
 (sO (1) [(eO 0 1 0),(eO 2 5 2)] 5 [(nO 1 2),(nO 3 0),(nO 4 3),(nO 5 4)] 73),
 (sO (2) [(eO 0 1 0),(eO 1 2 2)] 5 [(nO 2 5),(nO 3 0),(nO 4 3),(nO 5 4)] 73),
 (sO (0) [(eO 3 0 1),(eO 4 3 1),(eO 5 4 3)] 4 [(nO 0 1),(nO 1 2),(nO 2 5)] 73),
 (sO (0) [(eO 2 5 2),(eO 4 3 1),(eO 5 4 3)] 4 [(nO 0 1),(nO 1 2),(nO 3 0)] 73),
 (sO (0) [(eO 1 2 2),(eO 4 3 1),(eO 5 4 3)] 4 [(nO 0 1),(nO 2 5),(nO 3 0)] 73),
 (sO (1) [(eO 0 1 0),(eO 4 3 1),(eO 5 4 3)] 4 [(nO 1 2),(nO 2 5),(nO 3 0)] 73),
 (sO (0) [(eO 2 5 2),(eO 3 0 1),(eO 5 4 3)] 4 [(nO 0 1),(nO 1 2),(nO 4 3)] 73),
 (sO (0) [(eO 1 2 2),(eO 3 0 1),(eO 5 4 3)] 4 [(nO 0 1),(nO 2 5),(nO 4 3)] 73),
 (sO (1) [(eO 0 1 0),(eO 3 0 1),(eO 5 4 3)] 4 [(nO 1 2),(nO 2 5),(nO 4 3)] 73),
 (sO (0) [(eO 1 2 2),(eO 2 5 2),(eO 5 4 3)] 4 [(nO 0 1),(nO 3 0),(nO 4 3)] 73),
 (sO (1) [(eO 0 1 0),(eO 2 5 2),(eO 5 4 3)] 4 [(nO 1 2),(nO 3 0),(nO 4 3)] 73),
 (sO (2) [(eO 0 1 0),(eO 1 2 2),(eO 5 4 3)] 4 [(nO 2 5),(nO 3 0),(nO 4 3)] 73),
 (sO (0) [(eO 2 5 2),(eO 3 0 1),(eO 4 3 1)] 4 [(nO 0 1),(nO 1 2),(nO 5 4)] 73),
 (sO (0) [(eO 1 2 2),(eO 3 0 1),(eO 4 3 1)] 4 [(nO 0 1),(nO 2 5),(nO 5 4)] 73),
 (sO (1) [(eO 0 1 0),(eO 3 0 1),(eO 4 3 1)] 4 [(nO 1 2),(nO 2 5),(nO 5 4)] 73),
 (sO (0) [(eO 1 2 2),(eO 2 5 2),(eO 4 3 1)] 4 [(nO 0 1),(nO 3 0),(nO 5 4)] 73),
 (sO (1) [(eO 0 1 0),(eO 2 5 2),(eO 4 3 1)] 4 [(nO 1 2),(nO 3 0),(nO 5 4)] 73),
 (sO (2) [(eO 0 1 0),(eO 1 2 2),(eO 4 3 1)] 4 [(nO 2 5),(nO 3 0),(nO 5 4)] 73),
 (sO (0) [(eO 1 2 2),(eO 2 5 2),(eO 3 0 1)] 4 [(nO 0 1),(nO 4 3),(nO 5 4)] 73),
 (sO (1) [(eO 0 1 0),(eO 2 5 2),(eO 3 0 1)] 4 [(nO 1 2),(nO 4 3),(nO 5 4)] 73),
 (sO (2) [(eO 0 1 0),(eO 1 2 2),(eO 3 0 1)] 4 [(nO 2 5),(nO 4 3),(nO 5 4)] 73),
 (sO (3) [(eO 0 1 0),(eO 1 2 2),(eO 2 5 2)] 4 [(nO 3 0),(nO 4 3),(nO 5 4)] 73),
 (sO (0) [(eO 2 5 2),(eO 3 0 1),(eO 4 3 1),(eO 5 4 3)] 3 [(nO 0 1),(nO 1 2)] 73),
 (sO (0) [(eO 1 2 2),(eO 3 0 1),(eO 4 3 1),(eO 5 4 3)] 3 [(nO 0 1),(nO 2 5)] 73),
 (sO (1) [(eO 0 1 0),(eO 3 0 1),(eO 4 3 1),(eO 5 4 3)] 3 [(nO 1 2),(nO 2 5)] 73),
 (sO (0) [(eO 1 2 2),(eO 2 5 2),(eO 4 3 1),(eO 5 4 3)] 3 [(nO 0 1),(nO 3 0)] 73),
 (sO (1) [(eO 0 1 0),(eO 2 5 2),(eO 4 3 1),(eO 5 4 3)] 3 [(nO 1 2),(nO 3 0)] 73),
 (sO (2) [(eO 0 1 0),(eO 1 2 2),(eO 4 3 1),(eO 5 4 3)] 3 [(nO 2 5),(nO 3 0)] 73),
 (sO (0) [(eO 1 2 2),(eO 2 5 2),(eO 3 0 1),(eO 5 4 3)] 3 [(nO 0 1),(nO 4 3)] 73),
 (sO (1) [(eO 0 1 0),(eO 2 5 2),(eO 3 0 1),(eO 5 4 3)] 3 [(nO 1 2),(nO 4 3)] 73),
 (sO (2) [(eO 0 1 0),(eO 1 2 2),(eO 3 0 1),(eO 5 4 3)] 3 [(nO 2 5),(nO 4 3)] 73),
 (sO (3) [(eO 0 1 0),(eO 1 2 2),(eO 2 5 2),(eO 5 4 3)] 3 [(nO 3 0),(nO 4 3)] 73),
 (sO (0) [(eO 1 2 2),(eO 2 5 2),(eO 3 0 1),(eO 4 3 1)] 3 [(nO 0 1),(nO 5 4)] 73),
 (sO (1) [(eO 0 1 0),(eO 2 5 2),(eO 3 0 1),(eO 4 3 1)] 3 [(nO 1 2),(nO 5 4)] 73),
 (sO (2) [(eO 0 1 0),(eO 1 2 2),(eO 3 0 1),(eO 4 3 1)] 3 [(nO 2 5),(nO 5 4)] 73),
 (sO (3) [(eO 0 1 0),(eO 1 2 2),(eO 2 5 2),(eO 4 3 1)] 3 [(nO 3 0),(nO 5 4)] 73),
 (sO (4) [(eO 0 1 0),(eO 1 2 2),(eO 2 5 2),(eO 3 0 1)] 3 [(nO 4 3),(nO 5 4)] 73),
 (sO (0) [(eO 1 2 2),(eO 2 5 2),(eO 3 0 1),(eO 4 3 1),(eO 5 4 3)] 2 [(nO 0 1)] 73),
 (sO (1) [(eO 0 1 0),(eO 2 5 2),(eO 3 0 1),(eO 4 3 1),(eO 5 4 3)] 2 [(nO 1 2)] 73),
 (sO (2) [(eO 0 1 0),(eO 1 2 2),(eO 3 0 1),(eO 4 3 1),(eO 5 4 3)] 2 [(nO 2 5)] 73),
 (sO (3) [(eO 0 1 0),(eO 1 2 2),(eO 2 5 2),(eO 4 3 1),(eO 5 4 3)] 2 [(nO 3 0)] 73),
 (sO (4) [(eO 0 1 0),(eO 1 2 2),(eO 2 5 2),(eO 3 0 1),(eO 5 4 3)] 2 [(nO 4 3)] 73),
 (sO (5) [(eO 0 1 0),(eO 1 2 2),(eO 2 5 2),(eO 3 0 1),(eO 4 3 1)] 2 [(nO 5 4)] 73),
 (sO (-1) [(eO 0 1 0),(eO 1 2 2),(eO 2 5 2),(eO 3 0 1),(eO 4 3 1),(eO 5 4 3)] 1 [] 73)]
theorem outer_5:cutB (code cxOu kO.b) sO0 5 [sO0] lO5=true:=by kernel_rfl
set_option maxRecDepth 100000
noncomputable def lO7:List S:=[(sO (0) [] 5 [(nO 0 1),(nO 1 2),(nO 2 5),(nO 3 0),(nO 4 3),(nO 5 4)] 75),
 (sO (0) [(eO 5 4 3)] 4 [(nO 0 1),(nO 1 2),(nO 2 5),(nO 3 0),(nO 4 3)] 75),
 (sO (0) [(eO 4 3 1)] 4 [(nO 0 1),(nO 1 2),(nO 2 5),(nO 3 0),(nO 5 4)] 75),
 (sO (0) [(eO 3 0 1)] 4 [(nO 0 1),(nO 1 2),(nO 2 5),(nO 4 3),(nO 5 4)] 75),
 (sO (0) [(eO 2 5 2)] 4 [(nO 0 1),(nO 1 2),(nO 3 0),(nO 4 3),(nO 5 4)] 75),
 (sO (0) [(eO 1 2 2)] 4 [(nO 0 1),(nO 2 5),(nO 3 0),(nO 4 3),(nO 5 4)] 75),
 (sO (1) [(eO 0 1 0)] 4 [(nO 1 2),(nO 2 5),(nO 3 0),(nO 4 3),(nO 5 4)] 75),
 (sO (0) [(eO 4 3 1),(eO 5 4 3)] 3 [(nO 0 1),(nO 1 2),(nO 2 5),(nO 3 0)] 75),
 (sO (0) [(eO 3 0 1),(eO 5 4 3)] 3 [(nO 0 1),(nO 1 2),(nO 2 5),(nO 4 3)] 75),
 (sO (0) [(eO 2 5 2),(eO 5 4 3)] 3 [(nO 0 1),(nO 1 2),(nO 3 0),(nO 4 3)] 75),
 (sO (0) [(eO 1 2 2),(eO 5 4 3)] 3 [(nO 0 1),(nO 2 5),(nO 3 0),(nO 4 3)] 75),
 (sO (1) [(eO 0 1 0),(eO 5 4 3)] 3 [(nO 1 2),(nO 2 5),(nO 3 0),(nO 4 3)] 75),
 (sO (0) [(eO 3 0 1),(eO 4 3 1)] 3 [(nO 0 1),(nO 1 2),(nO 2 5),(nO 5 4)] 75),
 (sO (0) [(eO 2 5 2),(eO 4 3 1)] 3 [(nO 0 1),(nO 1 2),(nO 3 0),(nO 5 4)] 75),
 (sO (0) [(eO 1 2 2),(eO 4 3 1)] 3 [(nO 0 1),(nO 2 5),(nO 3 0),(nO 5 4)] 75),
 (sO (1) [(eO 0 1 0),(eO 4 3 1)] 3 [(nO 1 2),(nO 2 5),(nO 3 0),(nO 5 4)] 75),
 (sO (0) [(eO 2 5 2),(eO 3 0 1)] 3 [(nO 0 1),(nO 1 2),(nO 4 3),(nO 5 4)] 75),
 (sO (0) [(eO 1 2 2),(eO 3 0 1)] 3 [(nO 0 1),(nO 2 5),(nO 4 3),(nO 5 4)] 75),
 (sO (1) [(eO 0 1 0),(eO 3 0 1)] 3 [(nO 1 2),(nO 2 5),(nO 4 3),(nO 5 4)] 75),
 (sO (0) [(eO 1 2 2),(eO 2 5 2)] 3 [(nO 0 1),(nO 3 0),(nO 4 3),(nO 5 4)] 75),
 (sO (1) [(eO 0 1 0),(eO 2 5 2)] 3 [(nO 1 2),(nO 3 0),(nO 4 3),(nO 5 4)] 75),
 (sO (2) [(eO 0 1 0),(eO 1 2 2)] 3 [(nO 2 5),(nO 3 0),(nO 4 3),(nO 5 4)] 75),
 (sO (0) [(eO 3 0 1),(eO 4 3 1),(eO 5 4 3)] 2 [(nO 0 1),(nO 1 2),(nO 2 5)] 75),
 (sO (0) [(eO 2 5 2),(eO 4 3 1),(eO 5 4 3)] 2 [(nO 0 1),(nO 1 2),(nO 3 0)] 75),
 (sO (0) [(eO 1 2 2),(eO 4 3 1),(eO 5 4 3)] 2 [(nO 0 1),(nO 2 5),(nO 3 0)] 75),
 (sO (1) [(eO 0 1 0),(eO 4 3 1),(eO 5 4 3)] 2 [(nO 1 2),(nO 2 5),(nO 3 0)] 75),
 (sO (0) [(eO 2 5 2),(eO 3 0 1),(eO 5 4 3)] 2 [(nO 0 1),(nO 1 2),(nO 4 3)] 75),
 (sO (0) [(eO 1 2 2),(eO 3 0 1),(eO 5 4 3)] 2 [(nO 0 1),(nO 2 5),(nO 4 3)] 75),
 (sO (1) [(eO 0 1 0),(eO 3 0 1),(eO 5 4 3)] 2 [(nO 1 2),(nO 2 5),(nO 4 3)] 75),
 (sO (0) [(eO 1 2 2),(eO 2 5 2),(eO 5 4 3)] 2 [(nO 0 1),(nO 3 0),(nO 4 3)] 75),
 (sO (1) [(eO 0 1 0),(eO 2 5 2),(eO 5 4 3)] 2 [(nO 1 2),(nO 3 0),(nO 4 3)] 75),
 (sO (2) [(eO 0 1 0),(eO 1 2 2),(eO 5 4 3)] 2 [(nO 2 5),(nO 3 0),(nO 4 3)] 75),
 (sO (0) [(eO 2 5 2),(eO 3 0 1),(eO 4 3 1)] 2 [(nO 0 1),(nO 1 2),(nO 5 4)] 75),
 (sO (0) [(eO 1 2 2),(eO 3 0 1),(eO 4 3 1)] 2 [(nO 0 1),(nO 2 5),(nO 5 4)] 75),
 (sO (1) [(eO 0 1 0),(eO 3 0 1),(eO 4 3 1)] 2 [(nO 1 2),(nO 2 5),(nO 5 4)] 75),
 (sO (0) [(eO 1 2 2),(eO 2 5 2),(eO 4 3 1)] 2 [(nO 0 1),(nO 3 0),(nO 5 4)] 75),
 (sO (1) [(eO 0 1 0),(eO 2 5 2),(eO 4 3 1)] 2 [(nO 1 2),(nO 3 0),(nO 5 4)] 75),
 (sO (2) [(eO 0 1 0),(eO 1 2 2),(eO 4 3 1)] 2 [(nO 2 5),(nO 3 0),(nO 5 4)] 75),
 (sO (0) [(eO 1 2 2),(eO 2 5 2),(eO 3 0 1)] 2 [(nO 0 1),(nO 4 3),(nO 5 4)] 75),
 (sO (1) [(eO 0 1 0),(eO 2 5 2),(eO 3 0 1)] 2 [(nO 1 2),(nO 4 3),(nO 5 4)] 75),
 (sO (2) [(eO 0 1 0),(eO 1 2 2),(eO 3 0 1)] 2 [(nO 2 5),(nO 4 3),(nO 5 4)] 75),
 (sO (3) [(eO 0 1 0),(eO 1 2 2),(eO 2 5 2)] 2 [(nO 3 0),(nO 4 3),(nO 5 4)] 75),
 (sO (0) [(eO 2 5 2),(eO 3 0 1),(eO 4 3 1),(eO 5 4 3)] 1 [(nO 0 1),(nO 1 2)] 75),
 (sO (0) [(eO 1 2 2),(eO 3 0 1),(eO 4 3 1),(eO 5 4 3)] 1 [(nO 0 1),(nO 2 5)] 75),
 (sO (1) [(eO 0 1 0),(eO 3 0 1),(eO 4 3 1),(eO 5 4 3)] 1 [(nO 1 2),(nO 2 5)] 75),
 (sO (0) [(eO 1 2 2),(eO 2 5 2),(eO 4 3 1),(eO 5 4 3)] 1 [(nO 0 1),(nO 3 0)] 75),
 (sO (1) [(eO 0 1 0),(eO 2 5 2),(eO 4 3 1),(eO 5 4 3)] 1 [(nO 1 2),(nO 3 0)] 75),
 (sO (2) [(eO 0 1 0),(eO 1 2 2),(eO 4 3 1),(eO 5 4 3)] 1 [(nO 2 5),(nO 3 0)] 75),
 (sO (0) [(eO 1 2 2),(eO 2 5 2),(eO 3 0 1),(eO 5 4 3)] 1 [(nO 0 1),(nO 4 3)] 75),
 (sO (1) [(eO 0 1 0),(eO 2 5 2),(eO 3 0 1),(eO 5 4 3)] 1 [(nO 1 2),(nO 4 3)] 75),
 (sO (2) [(eO 0 1 0),(eO 1 2 2),(eO 3 0 1),(eO 5 4 3)] 1 [(nO 2 5),(nO 4 3)] 75),
 (sO (3) [(eO 0 1 0),(eO 1 2 2),(eO 2 5 2),(eO 5 4 3)] 1 [(nO 3 0),(nO 4 3)] 75),
 (sO (0) [(eO 1 2 2),(eO 2 5 2),(eO 3 0 1),(eO 4 3 1)] 1 [(nO 0 1),(nO 5 4)] 75),
 (sO (1) [(eO 0 1 0),(eO 2 5 2),(eO 3 0 1),(eO 4 3 1)] 1 [(nO 1 2),(nO 5 4)] 75),
 (sO (2) [(eO 0 1 0),(eO 1 2 2),(eO 3 0 1),(eO 4 3 1)] 1 [(nO 2 5),(nO 5 4)] 75),
 (sO (3) [(eO 0 1 0),(eO 1 2 2),(eO 2 5 2),(eO 4 3 1)] 1 [(nO 3 0),(nO 5 4)] 75),
 (sO (4) [(eO 0 1 0),(eO 1 2 2),(eO 2 5 2),(eO 3 0 1)] 1 [(nO 4 3),(nO 5 4)] 75),
 (sO (0) [(eO 1 2 2),(eO 2 5 2),(eO 3 0 1),(eO 4 3 1),(eO 5 4 3)] 0 [(nO 0 1)] 75),
 (sO (1) [(eO 0 1 0),(eO 2 5 2),(eO 3 0 1),(eO 4 3 1),(eO 5 4 3)] 0 [(nO 1 2)] 75),
 (sO (2) [(eO 0 1 0),(eO 1 2 2),(eO 3 0 1),(eO 4 3 1),(eO 5 4 3)] 0 [(nO 2 5)] 75),
 (sO (3) [(eO 0 1 0),(eO 1 2 2),(eO 2 5 2),(eO 4 3 1),(eO 5 4 3)] 0 [(nO 3 0)] 75),
 (sO (4) [(eO 0 1 0),(eO 1 2 2),(eO 2 5 2),(eO 3 0 1),(eO 5 4 3)] 0 [(nO 4 3)] 75),
 (sO (5) [(eO 0 1 0),(eO 1 2 2),(eO 2 5 2),(eO 3 0 1),(eO 4 3 1)] 0 [(nO 5 4)] 75)]
theorem outer_7:cutB (code cxOu kO.b) sO0 2 lO5 lO7=true:=by kernel_rfl
set_option maxRecDepth 100000
theorem outer_end:endB tb0 cxOu kO Tryz.f174 rmO (iter (code cxOu kO.b) sO0 9993 lO7 [])=true:=by kernel_rfl
theorem outer_rm {w0:Base} (hp:Pow w0):RmOk Tryz.prog w0 174 rmO:=by
 refine rm_ok (tb:=tb0) tabOk (fnOk hp) (rounds:=10000) (n:=60) (rm_cut (k:=kO) (s:=sO0) (fn:=Tryz.f174) (by kernel_rfl) outer_body outer_pre ?_)
 have e1:=cutB_ok (k:=9995) outer_5
 have e2:=cutB_ok (k:=9993) outer_7
 have e:iter (code cxOu kO.b) sO0 10000 [sO0] []=iter (code cxOu kO.b) sO0 9993 lO7 []:=e1.trans e2
 have h:=outer_end
 rw [← e] at h
 exact h
end Go.Proofs.YtkjinnjopoehhaaGreatDoor
