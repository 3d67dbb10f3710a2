/-
  klippe/rational.Of at even ints of eight bits and 2: the calls that all of them make are kept.
-/
import Derived.Test.YtobknfkobcbnoaaGreatDoorSymOf
set_option linter.unusedSectionVars false
set_option linter.unusedVariables false
set_option linter.unusedSimpArgs false
namespace Go.Proofs.YtobknfkobcbnoaaGreatDoor
open Go Ev Klp
def rowO87 : List (List V × V) := [([.str [50], .str [50]], .tup [.str [49], .str [48], .int .i64 0])]
def rowO20 : List (List V × V) := [([.int .i64 2], .str [50])]
def rowO49 : List (List V × V) := [([.str [50]], .int .i64 1)]
def listO : Memo := [(87, rowO87), (20, rowO20), (49, rowO49)]
def memoO : T (List (List V × V)) := (.n (.n (.n (.n .e none (.n .e none (.n (.n .e (some rowO87) .e) none .e))) none .e) none (.n (.n (.n .e none (.n .e (some rowO49) .e)) none .e) none .e)) none (.n (.n .e none (.n (.n .e (some rowO20) .e) none .e)) none .e))
theorem memoO_eq : memoO = mkMemo listO := by kernel_rfl
theorem o87_chk : chkF tb0 10000 60 87 rowO87 = true := by kernel_rfl
theorem o20_chk : chkF tb0 10000 60 20 rowO20 = true := by kernel_rfl
theorem o49_chk : chkF tb0 10000 60 49 rowO49 = true := by kernel_rfl
noncomputable def tbO : Tab := tb0.memo memoO
theorem fnO {w0 : Base} (hF : FnOk tb0 Tryz.prog w0) : FnOk tbO Tryz.prog w0 :=
  hF.memo memoO_eq (Memos.cons (chkF_ok tabOk hF o87_chk) (Memos.cons (chkF_ok tabOk hF o20_chk) (Memos.cons (chkF_ok tabOk hF o49_chk) Memos.nil)))
theorem ofRows_even {w0 : Base} (hF : FnOk tb0 Tryz.prog w0) {n k : Int} (hk : chkF tbO 10000 60 6 (ofRows 8 k) = true) (h1 : k ≤ n) (h2 : n < k + 16) (h3 : (n - k) % 2 = 0) : Contract Tryz.prog w0 6 [.int .i64 n, .int .i64 2] (.tup [.str (halfK n), .int .i64 0]) :=
  chkF_ok (tabOk.memo memoO) (fnO hF) hk _ (ofRows_mem 8 k n h1 (by omega) h3)
end Go.Proofs.YtobknfkobcbnoaaGreatDoor
