/-
  DERIVED. GIVEN WITH THE SEED: THE CARDS: each row of YtdkafeammgaknaaGreatDoorRows.lean that lists a variable, with what it lists TIED to the program's text (the seventh form; the later family's looks); each row that meets fmt, with fmt's text TOLD by the authors' own Lean function (tested against real Go, not proved from fmt's source: count such statements apart). THE CARD IS WHAT COUNTS. Prove the row's statement (the work); the ties are given (YtdkafeammgaknaaGreatDoorTie.lean); close each card by the builder's one call (the guide's Derived/Test/ToyasCard.lean, 'card_holds'). Laid BY PROGRAM, IN A SANDBOX (cutbox-door.mjs). By AI agents, Wed Nov 11 2026. No macro, syntax, notation, axiom, sorry.
-/
import Derived.Test.YtdkafeammgaknaaGreatDoorRows
import GoSem.ClaimSeven
namespace Go.Proofs.YtdkafeammgaknaaGreatDoor
namespace Rows

/-- THE TIED CARD OF 'klippelaw32.SliceChecks'. -/
def sliceChecksCard : Claim7 := { stood := { row := sliceChecksRow, standIns := [], harness := (true, "844d675a00fb61a968e2761dc54211b188cc7056e92d738c0411eb5b9e0c23cd"), looks := true }, kinds := [], alts := [], laidByText := true, laidKinds := [.data, .data, .data, .sentinel, .sentinel], laidTests := true, laidLooks := .later }
def SliceChecksCardSaid : Prop := Claim7.holds Tryz.pinned (.plain (OpenSpec.ofChange sliceChecksSpec)) sliceChecksCard

/-- THE SECOND FORM's CARD OF 'klippelaw32.SliceChecks'. -/
def sliceChecksUptoCard : Claim7 := { stood := { row := sliceChecksUptoRow, standIns := [], harness := (true, "844d675a00fb61a968e2761dc54211b188cc7056e92d738c0411eb5b9e0c23cd"), looks := true }, kinds := [], alts := [], laidByText := true, laidKinds := [.data, .data, .data, .sentinel, .sentinel], laidTests := true, laidLooks := .later }
def SliceChecksUptoCardSaid : Prop := Claim7.holds Tryz.pinned (.plain (OpenSpec.upto sliceChecksSpec)) sliceChecksUptoCard
end Rows
end Go.Proofs.YtdkafeammgaknaaGreatDoor
