/-
  What the row lists is what the program's text lays: the closed facts of the tie, one by one.
-/
import Derived.Test.YtjcfejncjdhplaaGreatDoorRows
import Derived.LaidByTextLater
import Derived.SevenTiedAt
import Derived.LaidSub
import Derived.LaidOnce
set_option linter.unusedSectionVars false
set_option linter.unusedVariables false
set_option linter.unusedSimpArgs false
namespace Go.Proofs.YtjcfejncjdhplaaGreatDoor
open Go
set_option maxRecDepth 100000
noncomputable abbrev laidM : List (String × DataW Unit) := [("internal/strconv.uint64pow10", Rows.laid_internal_strconv_uint64pow10), ("math/bits.deBruijn32tab", Rows.laid_math_bits_deBruijn32tab), ("math/bits.deBruijn64tab", Rows.laid_math_bits_deBruijn64tab), ("strconv.ErrSyntax", Rows.laid_strconv_ErrSyntax), ("strconv.ErrRange", Rows.laid_strconv_ErrRange), ("unicode/utf8.acceptRanges", Rows.laid_unicode_utf8_acceptRanges)]
abbrev kindsM : List LaidKind := [.data, .data, .data, .sentinel, .sentinel, .data]
theorem tm1 : Tryz.prog.worded (varsWordLater true) = true := by kernel_rfl
theorem tm2 : Tryz.prog.worded (varsWordLater !true) = false := by kernel_rfl
theorem tm3 : Tryz.prog.worded rootWordLater = true := by kernel_rfl
theorem tm4 : laidM.map (fun x => Tryz.prog.kindOfLater x.1) = kindsM.map some := by kernel_rfl
theorem tm5 : (Tryz.prog.funcNamed "gosem.cut.vars").isSome = true := by kernel_rfl
theorem tm6 : varsNamedLaterB Tryz.prog (varsId Tryz.prog) laidM = true := by kernel_rfl
theorem tm7 : ∀ os tape, varsDone Tryz.prog 400 (varsId Tryz.prog) os tape = true := fun _ _ => by kernel_rfl
theorem tm8 : ∀ os tape, (DataW.laidRun Tryz.prog (varsWorld Tryz.prog 400 (varsId Tryz.prog) os tape).memory 8 (laidM.map (·.1))).map (·.1) = some laidM := fun _ _ => by kernel_rfl
theorem tm9 : ∀ os tape, (DataW.laidRun Tryz.prog (varsWorld Tryz.prog 400 (varsId Tryz.prog) os tape).memory 8 (laidM.map (·.1))).map (fun x => decide x.2.Nodup && laidRowsB Tryz.prog (varsWorld Tryz.prog 400 (varsId Tryz.prog) os tape).memory x.2) = some true := fun _ _ => by kernel_rfl
theorem noUnsafeM : Tryz.pinned.checked.prog.headLifts.contains "ownunsafe" = false := by kernel_rfl
theorem tieM : Tryz.prog.laidByTextLater laidM kindsM true := Program.laidByTextLater_by_run 400 8 tm1 tm2 tm3 tm4 tm5 tm6 tm7 tm8 tm9
theorem pinFirst : Tryz.pinned.checked.prog.pinnedFits "unicode/utf8.first" = true := by kernel_rfl
theorem fitsM : Tryz.pinned.checked.prog.listedFits [("internal/strconv.uint64pow10", Rows.laid_internal_strconv_uint64pow10), ("math/bits.deBruijn32tab", Rows.laid_math_bits_deBruijn32tab), ("math/bits.deBruijn64tab", Rows.laid_math_bits_deBruijn64tab), ("strconv.ErrSyntax", Rows.laid_strconv_ErrSyntax), ("strconv.ErrRange", Rows.laid_strconv_ErrRange), ("unicode/utf8.first", Rows.laid_unicode_utf8_first), ("unicode/utf8.acceptRanges", Rows.laid_unicode_utf8_acceptRanges)] = true := by
  unfold Program.listedFits
  rw [noUnsafeM]
  kernel_rfl
theorem row_tieT : Rows.queryTextsRow.laidByTextAt .later Tryz.pinned [.data, .data, .data, .sentinel, .sentinel, .pinned, .data] true :=
  OpenClaim.laidByTextAt_pinned rfl rfl tieM rfl rfl rfl rfl (fun y hy _e => by
    simp only [Rows.queryTextsRow, List.zip_cons_cons, List.zip_nil_right, List.mem_cons, List.mem_nil_iff, or_false] at hy
    rcases hy with rfl | rfl | rfl | rfl | rfl | rfl | rfl
    · cases _e
    · cases _e
    · cases _e
    · cases _e
    · cases _e
    · exact ⟨pinFirst, by kernel_rfl⟩
    · cases _e) fitsM
end Go.Proofs.YtjcfejncjdhplaaGreatDoor
