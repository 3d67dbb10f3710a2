/-
  mesh.outer at nine sides: its loop, its last part, and the kept call.
-/
import Derived.Test.YtdkafeammgaknaaGreatDoorOuterC
import Derived.Test.YtdkafeammgaknaaGreatDoorEvMemo
set_option linter.unusedSectionVars false
set_option linter.unusedVariables false
set_option linter.unusedSimpArgs false
namespace Go.Proofs.YtdkafeammgaknaaGreatDoor
open Go Ev Klp
set_option maxRecDepth 100000
noncomputable def rmU : RM := ⟨[.agg [.slice 32 0 6 13,.slice 33 3 3 6],.map 64],[.map [(.agg [.int .i64 (0),.int .i64 (4)],.int .i64 (0)),(.agg [.int .i64 (1),.int .i64 (2)],.int .i64 (1)),(.agg [.int .i64 (1),.int .i64 (5)],.int .i64 (2)),(.agg [.int .i64 (2),.int .i64 (5)],.int .i64 (1)),(.agg [.int .i64 (3),.int .i64 (0)],.int .i64 (0)),(.agg [.int .i64 (4),.int .i64 (1)],.int .i64 (2)),(.agg [.int .i64 (4),.int .i64 (3)],.int .i64 (0)),(.agg [.int .i64 (5),.int .i64 (1)],.int .i64 (1)),(.agg [.int .i64 (5),.int .i64 (4)],.int .i64 (2))] none],.tup [.nils,.bool false],[],12⟩
noncomputable def h0U : H := (.n .e none (.n (.n (.n (.n (.n (.n .e (some (.map [(.agg [.int .i64 (0),.int .i64 (4)],.int .i64 (0)),(.agg [.int .i64 (1),.int .i64 (2)],.int .i64 (1)),(.agg [.int .i64 (1),.int .i64 (5)],.int .i64 (2)),(.agg [.int .i64 (2),.int .i64 (5)],.int .i64 (1)),(.agg [.int .i64 (3),.int .i64 (0)],.int .i64 (0)),(.agg [.int .i64 (4),.int .i64 (1)],.int .i64 (2)),(.agg [.int .i64 (4),.int .i64 (3)],.int .i64 (0)),(.agg [.int .i64 (5),.int .i64 (1)],.int .i64 (1)),(.agg [.int .i64 (5),.int .i64 (4)],.int .i64 (2))] (some 67))) .e) none .e) none .e) none .e) none .e) none .e))
noncomputable def sU (first : Int) (must : List (V × V)) (k : Nat) (nx : List (V × V)) (n : Nat) : S := ⟨(.n (.n (.n (.n .e (some (.int .i64 first)) .e) none (.n (.n .e (some (.ptr 67 0)) .e) none .e)) (some (.map 64)) (.n (.n (.n .e (some (.map 66)) .e) none .e) (some (.bool false)) .e)) (some (.agg [.slice 32 0 6 13,.slice 33 3 3 6])) (.n (.n .e (some (.nils)) .e) (some (.ptr 65 0)) (.n (.n (.n .e (some (.map 64)) .e) none .e) (some (.map 66)) .e))),(.n (.n (.n .e none (.n (.n (.n (.n .e (some (.iter 64 ⟨must,[(.agg [.int .i64 (1),.int .i64 (5)],.int .i64 (2)),(.agg [.int .i64 (5),.int .i64 (1)],.int .i64 (1))],k⟩ none)) .e) none .e) none .e) none .e)) none (.n (.n (.n (.n (.n .e (some (.cells [.slice 32 0 6 13,.slice 33 3 3 6] 42 0 false)) .e) none .e) none .e) none .e) none .e)) none (.n (.n (.n (.n (.n (.n .e (some (.map [(.agg [.int .i64 (0),.int .i64 (4)],.int .i64 (0)),(.agg [.int .i64 (1),.int .i64 (2)],.int .i64 (1)),(.agg [.int .i64 (1),.int .i64 (5)],.int .i64 (2)),(.agg [.int .i64 (2),.int .i64 (5)],.int .i64 (1)),(.agg [.int .i64 (3),.int .i64 (0)],.int .i64 (0)),(.agg [.int .i64 (4),.int .i64 (1)],.int .i64 (2)),(.agg [.int .i64 (4),.int .i64 (3)],.int .i64 (0)),(.agg [.int .i64 (5),.int .i64 (1)],.int .i64 (1)),(.agg [.int .i64 (5),.int .i64 (4)],.int .i64 (2))] (some 67))) .e) none .e) none .e) none .e) none .e) none (.n (.n (.n (.n (.n .e (some (.map nx none)) .e) none .e) none .e) none .e) none .e))),n,[]⟩
noncomputable def sU0 : S := (sU (-1) [(eO 0 4 0),(eO 1 2 1),(eO 2 5 1),(eO 3 0 0),(eO 4 1 2),(eO 4 3 0),(eO 5 4 2)] 2 [] 68)
theorem cuo_pre : preB cxOu kO Tryz.f121 rmU sU0 = true := by kernel_rfl
theorem cuo_ns : keysT id (T.ofList .e 64 rmU.sub : H) = [64] := by kernel_rfl
theorem cuo_fin : (V.eq rmU.v rmU.v && outIn h0U rmU.out) = true := by kernel_rfl
noncomputable def lU4 : List S := [(sU (0) [(eO 4 1 2),(eO 4 3 0),(eO 5 4 2)] 2 [(nO 0 4),(nO 1 2),(nO 2 5),(nO 3 0)] 72),
 (sU (0) [(eO 3 0 0),(eO 4 3 0),(eO 5 4 2)] 2 [(nO 0 4),(nO 1 2),(nO 2 5),(nO 4 1)] 72),
 (sU (0) [(eO 2 5 1),(eO 4 3 0),(eO 5 4 2)] 2 [(nO 0 4),(nO 1 2),(nO 3 0),(nO 4 1)] 72),
 (sU (0) [(eO 1 2 1),(eO 4 3 0),(eO 5 4 2)] 2 [(nO 0 4),(nO 2 5),(nO 3 0),(nO 4 1)] 72),
 (sU (1) [(eO 0 4 0),(eO 4 3 0),(eO 5 4 2)] 2 [(nO 1 2),(nO 2 5),(nO 3 0),(nO 4 1)] 72),
 (sU (0) [(eO 3 0 0),(eO 4 1 2),(eO 5 4 2)] 2 [(nO 0 4),(nO 1 2),(nO 2 5),(nO 4 3)] 72),
 (sU (0) [(eO 2 5 1),(eO 4 1 2),(eO 5 4 2)] 2 [(nO 0 4),(nO 1 2),(nO 3 0),(nO 4 3)] 72),
 (sU (0) [(eO 1 2 1),(eO 4 1 2),(eO 5 4 2)] 2 [(nO 0 4),(nO 2 5),(nO 3 0),(nO 4 3)] 72),
 (sU (1) [(eO 0 4 0),(eO 4 1 2),(eO 5 4 2)] 2 [(nO 1 2),(nO 2 5),(nO 3 0),(nO 4 3)] 72),
 (sU (0) [(eO 3 0 0),(eO 4 1 2),(eO 4 3 0)] 2 [(nO 0 4),(nO 1 2),(nO 2 5),(nO 5 4)] 72),
 (sU (0) [(eO 2 5 1),(eO 4 1 2),(eO 4 3 0)] 2 [(nO 0 4),(nO 1 2),(nO 3 0),(nO 5 4)] 72),
 (sU (0) [(eO 1 2 1),(eO 4 1 2),(eO 4 3 0)] 2 [(nO 0 4),(nO 2 5),(nO 3 0),(nO 5 4)] 72),
 (sU (1) [(eO 0 4 0),(eO 4 1 2),(eO 4 3 0)] 2 [(nO 1 2),(nO 2 5),(nO 3 0),(nO 5 4)] 72),
 (sU (0) [(eO 2 5 1),(eO 3 0 0),(eO 4 3 0)] 2 [(nO 0 4),(nO 1 2),(nO 4 1),(nO 5 4)] 72),
 (sU (0) [(eO 1 2 1),(eO 3 0 0),(eO 4 3 0)] 2 [(nO 0 4),(nO 2 5),(nO 4 1),(nO 5 4)] 72),
 (sU (1) [(eO 0 4 0),(eO 3 0 0),(eO 4 3 0)] 2 [(nO 1 2),(nO 2 5),(nO 4 1),(nO 5 4)] 72),
 (sU (0) [(eO 1 2 1),(eO 2 5 1),(eO 4 3 0)] 2 [(nO 0 4),(nO 3 0),(nO 4 1),(nO 5 4)] 72),
 (sU (1) [(eO 0 4 0),(eO 2 5 1),(eO 4 3 0)] 2 [(nO 1 2),(nO 3 0),(nO 4 1),(nO 5 4)] 72),
 (sU (2) [(eO 0 4 0),(eO 1 2 1),(eO 4 3 0)] 2 [(nO 2 5),(nO 3 0),(nO 4 1),(nO 5 4)] 72),
 (sU (0) [(eO 2 5 1),(eO 3 0 0),(eO 4 1 2)] 2 [(nO 0 4),(nO 1 2),(nO 4 3),(nO 5 4)] 72),
 (sU (0) [(eO 1 2 1),(eO 3 0 0),(eO 4 1 2)] 2 [(nO 0 4),(nO 2 5),(nO 4 3),(nO 5 4)] 72),
 (sU (1) [(eO 0 4 0),(eO 3 0 0),(eO 4 1 2)] 2 [(nO 1 2),(nO 2 5),(nO 4 3),(nO 5 4)] 72),
 (sU (0) [(eO 1 2 1),(eO 2 5 1),(eO 4 1 2)] 2 [(nO 0 4),(nO 3 0),(nO 4 3),(nO 5 4)] 72),
 (sU (1) [(eO 0 4 0),(eO 2 5 1),(eO 4 1 2)] 2 [(nO 1 2),(nO 3 0),(nO 4 3),(nO 5 4)] 72),
 (sU (2) [(eO 0 4 0),(eO 1 2 1),(eO 4 1 2)] 2 [(nO 2 5),(nO 3 0),(nO 4 3),(nO 5 4)] 72),
 (sU (0) [(eO 3 0 0),(eO 4 1 2),(eO 4 3 0),(eO 5 4 2)] 1 [(nO 0 4),(nO 1 2),(nO 2 5)] 72),
 (sU (0) [(eO 2 5 1),(eO 4 1 2),(eO 4 3 0),(eO 5 4 2)] 1 [(nO 0 4),(nO 1 2),(nO 3 0)] 72),
 (sU (0) [(eO 1 2 1),(eO 4 1 2),(eO 4 3 0),(eO 5 4 2)] 1 [(nO 0 4),(nO 2 5),(nO 3 0)] 72),
 (sU (1) [(eO 0 4 0),(eO 4 1 2),(eO 4 3 0),(eO 5 4 2)] 1 [(nO 1 2),(nO 2 5),(nO 3 0)] 72),
 (sU (0) [(eO 2 5 1),(eO 3 0 0),(eO 4 3 0),(eO 5 4 2)] 1 [(nO 0 4),(nO 1 2),(nO 4 1)] 72),
 (sU (0) [(eO 1 2 1),(eO 3 0 0),(eO 4 3 0),(eO 5 4 2)] 1 [(nO 0 4),(nO 2 5),(nO 4 1)] 72),
 (sU (1) [(eO 0 4 0),(eO 3 0 0),(eO 4 3 0),(eO 5 4 2)] 1 [(nO 1 2),(nO 2 5),(nO 4 1)] 72),
 (sU (0) [(eO 1 2 1),(eO 2 5 1),(eO 4 3 0),(eO 5 4 2)] 1 [(nO 0 4),(nO 3 0),(nO 4 1)] 72),
 (sU (1) [(eO 0 4 0),(eO 2 5 1),(eO 4 3 0),(eO 5 4 2)] 1 [(nO 1 2),(nO 3 0),(nO 4 1)] 72),
 (sU (2) [(eO 0 4 0),(eO 1 2 1),(eO 4 3 0),(eO 5 4 2)] 1 [(nO 2 5),(nO 3 0),(nO 4 1)] 72),
 (sU (0) [(eO 2 5 1),(eO 3 0 0),(eO 4 1 2),(eO 5 4 2)] 1 [(nO 0 4),(nO 1 2),(nO 4 3)] 72),
 (sU (0) [(eO 1 2 1),(eO 3 0 0),(eO 4 1 2),(eO 5 4 2)] 1 [(nO 0 4),(nO 2 5),(nO 4 3)] 72),
 (sU (1) [(eO 0 4 0),(eO 3 0 0),(eO 4 1 2),(eO 5 4 2)] 1 [(nO 1 2),(nO 2 5),(nO 4 3)] 72),
 (sU (0) [(eO 1 2 1),(eO 2 5 1),(eO 4 1 2),(eO 5 4 2)] 1 [(nO 0 4),(nO 3 0),(nO 4 3)] 72),
 (sU (1) [(eO 0 4 0),(eO 2 5 1),(eO 4 1 2),(eO 5 4 2)] 1 [(nO 1 2),(nO 3 0),(nO 4 3)] 72),
 (sU (2) [(eO 0 4 0),(eO 1 2 1),(eO 4 1 2),(eO 5 4 2)] 1 [(nO 2 5),(nO 3 0),(nO 4 3)] 72),
 (sU (0) [(eO 2 5 1),(eO 3 0 0),(eO 4 1 2),(eO 4 3 0)] 1 [(nO 0 4),(nO 1 2),(nO 5 4)] 72),
 (sU (0) [(eO 1 2 1),(eO 3 0 0),(eO 4 1 2),(eO 4 3 0)] 1 [(nO 0 4),(nO 2 5),(nO 5 4)] 72),
 (sU (1) [(eO 0 4 0),(eO 3 0 0),(eO 4 1 2),(eO 4 3 0)] 1 [(nO 1 2),(nO 2 5),(nO 5 4)] 72),
 (sU (0) [(eO 1 2 1),(eO 2 5 1),(eO 4 1 2),(eO 4 3 0)] 1 [(nO 0 4),(nO 3 0),(nO 5 4)] 72),
 (sU (1) [(eO 0 4 0),(eO 2 5 1),(eO 4 1 2),(eO 4 3 0)] 1 [(nO 1 2),(nO 3 0),(nO 5 4)] 72),
 (sU (2) [(eO 0 4 0),(eO 1 2 1),(eO 4 1 2),(eO 4 3 0)] 1 [(nO 2 5),(nO 3 0),(nO 5 4)] 72),
 (sU (0) [(eO 1 2 1),(eO 2 5 1),(eO 3 0 0),(eO 4 3 0)] 1 [(nO 0 4),(nO 4 1),(nO 5 4)] 72),
 (sU (1) [(eO 0 4 0),(eO 2 5 1),(eO 3 0 0),(eO 4 3 0)] 1 [(nO 1 2),(nO 4 1),(nO 5 4)] 72),
 (sU (2) [(eO 0 4 0),(eO 1 2 1),(eO 3 0 0),(eO 4 3 0)] 1 [(nO 2 5),(nO 4 1),(nO 5 4)] 72),
 (sU (3) [(eO 0 4 0),(eO 1 2 1),(eO 2 5 1),(eO 4 3 0)] 1 [(nO 3 0),(nO 4 1),(nO 5 4)] 72),
 (sU (0) [(eO 1 2 1),(eO 2 5 1),(eO 3 0 0),(eO 4 1 2)] 1 [(nO 0 4),(nO 4 3),(nO 5 4)] 72),
 (sU (1) [(eO 0 4 0),(eO 2 5 1),(eO 3 0 0),(eO 4 1 2)] 1 [(nO 1 2),(nO 4 3),(nO 5 4)] 72),
 (sU (2) [(eO 0 4 0),(eO 1 2 1),(eO 3 0 0),(eO 4 1 2)] 1 [(nO 2 5),(nO 4 3),(nO 5 4)] 72),
 (sU (3) [(eO 0 4 0),(eO 1 2 1),(eO 2 5 1),(eO 4 1 2)] 1 [(nO 3 0),(nO 4 3),(nO 5 4)] 72),
 (sU (0) [(eO 2 5 1),(eO 3 0 0),(eO 4 1 2),(eO 4 3 0),(eO 5 4 2)] 0 [(nO 0 4),(nO 1 2)] 72),
 (sU (0) [(eO 1 2 1),(eO 3 0 0),(eO 4 1 2),(eO 4 3 0),(eO 5 4 2)] 0 [(nO 0 4),(nO 2 5)] 72),
 (sU (1) [(eO 0 4 0),(eO 3 0 0),(eO 4 1 2),(eO 4 3 0),(eO 5 4 2)] 0 [(nO 1 2),(nO 2 5)] 72),
 (sU (0) [(eO 1 2 1),(eO 2 5 1),(eO 4 1 2),(eO 4 3 0),(eO 5 4 2)] 0 [(nO 0 4),(nO 3 0)] 72),
 (sU (1) [(eO 0 4 0),(eO 2 5 1),(eO 4 1 2),(eO 4 3 0),(eO 5 4 2)] 0 [(nO 1 2),(nO 3 0)] 72),
 (sU (2) [(eO 0 4 0),(eO 1 2 1),(eO 4 1 2),(eO 4 3 0),(eO 5 4 2)] 0 [(nO 2 5),(nO 3 0)] 72),
 (sU (0) [(eO 1 2 1),(eO 2 5 1),(eO 3 0 0),(eO 4 3 0),(eO 5 4 2)] 0 [(nO 0 4),(nO 4 1)] 72),
 (sU (1) [(eO 0 4 0),(eO 2 5 1),(eO 3 0 0),(eO 4 3 0),(eO 5 4 2)] 0 [(nO 1 2),(nO 4 1)] 72),
 (sU (2) [(eO 0 4 0),(eO 1 2 1),(eO 3 0 0),(eO 4 3 0),(eO 5 4 2)] 0 [(nO 2 5),(nO 4 1)] 72),
 (sU (3) [(eO 0 4 0),(eO 1 2 1),(eO 2 5 1),(eO 4 3 0),(eO 5 4 2)] 0 [(nO 3 0),(nO 4 1)] 72),
 (sU (0) [(eO 1 2 1),(eO 2 5 1),(eO 3 0 0),(eO 4 1 2),(eO 5 4 2)] 0 [(nO 0 4),(nO 4 3)] 72),
 (sU (1) [(eO 0 4 0),(eO 2 5 1),(eO 3 0 0),(eO 4 1 2),(eO 5 4 2)] 0 [(nO 1 2),(nO 4 3)] 72),
 (sU (2) [(eO 0 4 0),(eO 1 2 1),(eO 3 0 0),(eO 4 1 2),(eO 5 4 2)] 0 [(nO 2 5),(nO 4 3)] 72),
 (sU (3) [(eO 0 4 0),(eO 1 2 1),(eO 2 5 1),(eO 4 1 2),(eO 5 4 2)] 0 [(nO 3 0),(nO 4 3)] 72),
 (sU (0) [(eO 1 2 1),(eO 2 5 1),(eO 3 0 0),(eO 4 1 2),(eO 4 3 0)] 0 [(nO 0 4),(nO 5 4)] 72),
 (sU (1) [(eO 0 4 0),(eO 2 5 1),(eO 3 0 0),(eO 4 1 2),(eO 4 3 0)] 0 [(nO 1 2),(nO 5 4)] 72),
 (sU (2) [(eO 0 4 0),(eO 1 2 1),(eO 3 0 0),(eO 4 1 2),(eO 4 3 0)] 0 [(nO 2 5),(nO 5 4)] 72),
 (sU (3) [(eO 0 4 0),(eO 1 2 1),(eO 2 5 1),(eO 4 1 2),(eO 4 3 0)] 0 [(nO 3 0),(nO 5 4)] 72),
 (sU (4) [(eO 0 4 0),(eO 1 2 1),(eO 2 5 1),(eO 3 0 0),(eO 4 3 0)] 0 [(nO 4 1),(nO 5 4)] 72),
 (sU (4) [(eO 0 4 0),(eO 1 2 1),(eO 2 5 1),(eO 3 0 0),(eO 4 1 2)] 0 [(nO 4 3),(nO 5 4)] 72)]
theorem cuo_4 : cutP (code cxOu kO.b) sU0 (goneP tb0 Tryz.f121 rmU [64] h0U) 4 [sU0] lU4 = true := by kernel_rfl
end Go.Proofs.YtdkafeammgaknaaGreatDoor
namespace Go.Proofs.YtdkafeammgaknaaGreatDoor
open Go Ev Klp
set_option maxRecDepth 100000
noncomputable def lU5 : List S := [(sU (0) [(eO 4 3 0),(eO 5 4 2)] 2 [(nO 0 4),(nO 1 2),(nO 2 5),(nO 3 0),(nO 4 1)] 73),
 (sU (0) [(eO 4 1 2),(eO 5 4 2)] 2 [(nO 0 4),(nO 1 2),(nO 2 5),(nO 3 0),(nO 4 3)] 73),
 (sU (0) [(eO 4 1 2),(eO 4 3 0)] 2 [(nO 0 4),(nO 1 2),(nO 2 5),(nO 3 0),(nO 5 4)] 73),
 (sU (0) [(eO 3 0 0),(eO 4 3 0)] 2 [(nO 0 4),(nO 1 2),(nO 2 5),(nO 4 1),(nO 5 4)] 73),
 (sU (0) [(eO 2 5 1),(eO 4 3 0)] 2 [(nO 0 4),(nO 1 2),(nO 3 0),(nO 4 1),(nO 5 4)] 73),
 (sU (0) [(eO 1 2 1),(eO 4 3 0)] 2 [(nO 0 4),(nO 2 5),(nO 3 0),(nO 4 1),(nO 5 4)] 73),
 (sU (1) [(eO 0 4 0),(eO 4 3 0)] 2 [(nO 1 2),(nO 2 5),(nO 3 0),(nO 4 1),(nO 5 4)] 73),
 (sU (0) [(eO 3 0 0),(eO 4 1 2)] 2 [(nO 0 4),(nO 1 2),(nO 2 5),(nO 4 3),(nO 5 4)] 73),
 (sU (0) [(eO 2 5 1),(eO 4 1 2)] 2 [(nO 0 4),(nO 1 2),(nO 3 0),(nO 4 3),(nO 5 4)] 73),
 (sU (0) [(eO 1 2 1),(eO 4 1 2)] 2 [(nO 0 4),(nO 2 5),(nO 3 0),(nO 4 3),(nO 5 4)] 73),
 (sU (1) [(eO 0 4 0),(eO 4 1 2)] 2 [(nO 1 2),(nO 2 5),(nO 3 0),(nO 4 3),(nO 5 4)] 73),
 (sU (0) [(eO 4 1 2),(eO 4 3 0),(eO 5 4 2)] 1 [(nO 0 4),(nO 1 2),(nO 2 5),(nO 3 0)] 73),
 (sU (0) [(eO 3 0 0),(eO 4 3 0),(eO 5 4 2)] 1 [(nO 0 4),(nO 1 2),(nO 2 5),(nO 4 1)] 73),
 (sU (0) [(eO 2 5 1),(eO 4 3 0),(eO 5 4 2)] 1 [(nO 0 4),(nO 1 2),(nO 3 0),(nO 4 1)] 73),
 (sU (0) [(eO 1 2 1),(eO 4 3 0),(eO 5 4 2)] 1 [(nO 0 4),(nO 2 5),(nO 3 0),(nO 4 1)] 73),
 (sU (1) [(eO 0 4 0),(eO 4 3 0),(eO 5 4 2)] 1 [(nO 1 2),(nO 2 5),(nO 3 0),(nO 4 1)] 73),
 (sU (0) [(eO 3 0 0),(eO 4 1 2),(eO 5 4 2)] 1 [(nO 0 4),(nO 1 2),(nO 2 5),(nO 4 3)] 73),
 (sU (0) [(eO 2 5 1),(eO 4 1 2),(eO 5 4 2)] 1 [(nO 0 4),(nO 1 2),(nO 3 0),(nO 4 3)] 73),
 (sU (0) [(eO 1 2 1),(eO 4 1 2),(eO 5 4 2)] 1 [(nO 0 4),(nO 2 5),(nO 3 0),(nO 4 3)] 73),
 (sU (1) [(eO 0 4 0),(eO 4 1 2),(eO 5 4 2)] 1 [(nO 1 2),(nO 2 5),(nO 3 0),(nO 4 3)] 73),
 (sU (0) [(eO 3 0 0),(eO 4 1 2),(eO 4 3 0)] 1 [(nO 0 4),(nO 1 2),(nO 2 5),(nO 5 4)] 73),
 (sU (0) [(eO 2 5 1),(eO 4 1 2),(eO 4 3 0)] 1 [(nO 0 4),(nO 1 2),(nO 3 0),(nO 5 4)] 73),
 (sU (0) [(eO 1 2 1),(eO 4 1 2),(eO 4 3 0)] 1 [(nO 0 4),(nO 2 5),(nO 3 0),(nO 5 4)] 73),
 (sU (1) [(eO 0 4 0),(eO 4 1 2),(eO 4 3 0)] 1 [(nO 1 2),(nO 2 5),(nO 3 0),(nO 5 4)] 73),
 (sU (0) [(eO 2 5 1),(eO 3 0 0),(eO 4 3 0)] 1 [(nO 0 4),(nO 1 2),(nO 4 1),(nO 5 4)] 73),
 (sU (0) [(eO 1 2 1),(eO 3 0 0),(eO 4 3 0)] 1 [(nO 0 4),(nO 2 5),(nO 4 1),(nO 5 4)] 73),
 (sU (1) [(eO 0 4 0),(eO 3 0 0),(eO 4 3 0)] 1 [(nO 1 2),(nO 2 5),(nO 4 1),(nO 5 4)] 73),
 (sU (0) [(eO 1 2 1),(eO 2 5 1),(eO 4 3 0)] 1 [(nO 0 4),(nO 3 0),(nO 4 1),(nO 5 4)] 73),
 (sU (1) [(eO 0 4 0),(eO 2 5 1),(eO 4 3 0)] 1 [(nO 1 2),(nO 3 0),(nO 4 1),(nO 5 4)] 73),
 (sU (2) [(eO 0 4 0),(eO 1 2 1),(eO 4 3 0)] 1 [(nO 2 5),(nO 3 0),(nO 4 1),(nO 5 4)] 73),
 (sU (0) [(eO 2 5 1),(eO 3 0 0),(eO 4 1 2)] 1 [(nO 0 4),(nO 1 2),(nO 4 3),(nO 5 4)] 73),
 (sU (0) [(eO 1 2 1),(eO 3 0 0),(eO 4 1 2)] 1 [(nO 0 4),(nO 2 5),(nO 4 3),(nO 5 4)] 73),
 (sU (1) [(eO 0 4 0),(eO 3 0 0),(eO 4 1 2)] 1 [(nO 1 2),(nO 2 5),(nO 4 3),(nO 5 4)] 73),
 (sU (0) [(eO 1 2 1),(eO 2 5 1),(eO 4 1 2)] 1 [(nO 0 4),(nO 3 0),(nO 4 3),(nO 5 4)] 73),
 (sU (1) [(eO 0 4 0),(eO 2 5 1),(eO 4 1 2)] 1 [(nO 1 2),(nO 3 0),(nO 4 3),(nO 5 4)] 73),
 (sU (2) [(eO 0 4 0),(eO 1 2 1),(eO 4 1 2)] 1 [(nO 2 5),(nO 3 0),(nO 4 3),(nO 5 4)] 73),
 (sU (0) [(eO 3 0 0),(eO 4 1 2),(eO 4 3 0),(eO 5 4 2)] 0 [(nO 0 4),(nO 1 2),(nO 2 5)] 73),
 (sU (0) [(eO 2 5 1),(eO 4 1 2),(eO 4 3 0),(eO 5 4 2)] 0 [(nO 0 4),(nO 1 2),(nO 3 0)] 73),
 (sU (0) [(eO 1 2 1),(eO 4 1 2),(eO 4 3 0),(eO 5 4 2)] 0 [(nO 0 4),(nO 2 5),(nO 3 0)] 73),
 (sU (1) [(eO 0 4 0),(eO 4 1 2),(eO 4 3 0),(eO 5 4 2)] 0 [(nO 1 2),(nO 2 5),(nO 3 0)] 73),
 (sU (0) [(eO 2 5 1),(eO 3 0 0),(eO 4 3 0),(eO 5 4 2)] 0 [(nO 0 4),(nO 1 2),(nO 4 1)] 73),
 (sU (0) [(eO 1 2 1),(eO 3 0 0),(eO 4 3 0),(eO 5 4 2)] 0 [(nO 0 4),(nO 2 5),(nO 4 1)] 73),
 (sU (1) [(eO 0 4 0),(eO 3 0 0),(eO 4 3 0),(eO 5 4 2)] 0 [(nO 1 2),(nO 2 5),(nO 4 1)] 73),
 (sU (0) [(eO 1 2 1),(eO 2 5 1),(eO 4 3 0),(eO 5 4 2)] 0 [(nO 0 4),(nO 3 0),(nO 4 1)] 73),
 (sU (1) [(eO 0 4 0),(eO 2 5 1),(eO 4 3 0),(eO 5 4 2)] 0 [(nO 1 2),(nO 3 0),(nO 4 1)] 73),
 (sU (2) [(eO 0 4 0),(eO 1 2 1),(eO 4 3 0),(eO 5 4 2)] 0 [(nO 2 5),(nO 3 0),(nO 4 1)] 73),
 (sU (0) [(eO 2 5 1),(eO 3 0 0),(eO 4 1 2),(eO 5 4 2)] 0 [(nO 0 4),(nO 1 2),(nO 4 3)] 73),
 (sU (0) [(eO 1 2 1),(eO 3 0 0),(eO 4 1 2),(eO 5 4 2)] 0 [(nO 0 4),(nO 2 5),(nO 4 3)] 73),
 (sU (1) [(eO 0 4 0),(eO 3 0 0),(eO 4 1 2),(eO 5 4 2)] 0 [(nO 1 2),(nO 2 5),(nO 4 3)] 73),
 (sU (0) [(eO 1 2 1),(eO 2 5 1),(eO 4 1 2),(eO 5 4 2)] 0 [(nO 0 4),(nO 3 0),(nO 4 3)] 73),
 (sU (1) [(eO 0 4 0),(eO 2 5 1),(eO 4 1 2),(eO 5 4 2)] 0 [(nO 1 2),(nO 3 0),(nO 4 3)] 73),
 (sU (2) [(eO 0 4 0),(eO 1 2 1),(eO 4 1 2),(eO 5 4 2)] 0 [(nO 2 5),(nO 3 0),(nO 4 3)] 73),
 (sU (0) [(eO 2 5 1),(eO 3 0 0),(eO 4 1 2),(eO 4 3 0)] 0 [(nO 0 4),(nO 1 2),(nO 5 4)] 73),
 (sU (0) [(eO 1 2 1),(eO 3 0 0),(eO 4 1 2),(eO 4 3 0)] 0 [(nO 0 4),(nO 2 5),(nO 5 4)] 73),
 (sU (1) [(eO 0 4 0),(eO 3 0 0),(eO 4 1 2),(eO 4 3 0)] 0 [(nO 1 2),(nO 2 5),(nO 5 4)] 73),
 (sU (0) [(eO 1 2 1),(eO 2 5 1),(eO 4 1 2),(eO 4 3 0)] 0 [(nO 0 4),(nO 3 0),(nO 5 4)] 73),
 (sU (1) [(eO 0 4 0),(eO 2 5 1),(eO 4 1 2),(eO 4 3 0)] 0 [(nO 1 2),(nO 3 0),(nO 5 4)] 73),
 (sU (2) [(eO 0 4 0),(eO 1 2 1),(eO 4 1 2),(eO 4 3 0)] 0 [(nO 2 5),(nO 3 0),(nO 5 4)] 73),
 (sU (0) [(eO 1 2 1),(eO 2 5 1),(eO 3 0 0),(eO 4 3 0)] 0 [(nO 0 4),(nO 4 1),(nO 5 4)] 73),
 (sU (1) [(eO 0 4 0),(eO 2 5 1),(eO 3 0 0),(eO 4 3 0)] 0 [(nO 1 2),(nO 4 1),(nO 5 4)] 73),
 (sU (2) [(eO 0 4 0),(eO 1 2 1),(eO 3 0 0),(eO 4 3 0)] 0 [(nO 2 5),(nO 4 1),(nO 5 4)] 73),
 (sU (3) [(eO 0 4 0),(eO 1 2 1),(eO 2 5 1),(eO 4 3 0)] 0 [(nO 3 0),(nO 4 1),(nO 5 4)] 73),
 (sU (0) [(eO 1 2 1),(eO 2 5 1),(eO 3 0 0),(eO 4 1 2)] 0 [(nO 0 4),(nO 4 3),(nO 5 4)] 73),
 (sU (1) [(eO 0 4 0),(eO 2 5 1),(eO 3 0 0),(eO 4 1 2)] 0 [(nO 1 2),(nO 4 3),(nO 5 4)] 73),
 (sU (2) [(eO 0 4 0),(eO 1 2 1),(eO 3 0 0),(eO 4 1 2)] 0 [(nO 2 5),(nO 4 3),(nO 5 4)] 73),
 (sU (3) [(eO 0 4 0),(eO 1 2 1),(eO 2 5 1),(eO 4 1 2)] 0 [(nO 3 0),(nO 4 3),(nO 5 4)] 73)]
theorem cuo_5 : cutP (code cxOu kO.b) sU0 (goneP tb0 Tryz.f121 rmU [64] h0U) 1 lU4 lU5 = true := by kernel_rfl
end Go.Proofs.YtdkafeammgaknaaGreatDoor
namespace Go.Proofs.YtdkafeammgaknaaGreatDoor
open Go Ev Klp
set_option maxRecDepth 100000
theorem cuo_end : lastP (code cxOu kO.b) sU0 (goneP tb0 Tryz.f121 rmU [64] h0U) (topP tb0 Tryz.f121 rmU) 9995 lU5 = true := by kernel_rfl
theorem cuo_rm {w0 : Base} (hp : Pow w0) : RmOk Tryz.prog w0 121 rmU :=
 rm_ok (tb := tb0) tabOk (fnOk hp) (rounds := 10000) (n := 60) (rm_cutP (k := kO) (s := sU0) (fn := Tryz.f121) (by kernel_rfl) outer_body cuo_pre cuo_ns cuo_fin (cutP_ok (k := 9996) cuo_4 (cutP_ok (k := 9995) cuo_5 cuo_end)))
end Go.Proofs.YtdkafeammgaknaaGreatDoor
