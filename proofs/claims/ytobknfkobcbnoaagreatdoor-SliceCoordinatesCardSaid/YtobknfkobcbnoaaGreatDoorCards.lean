/-
  DERIVED. GIVEN WITH THE SEED: THE CARDS: each row of YtobknfkobcbnoaaGreatDoorRows.lean that lists a variable, with what it lists TIED to the program's text (the seventh form; the later family's looks); each row that meets fmt, with fmt's text TOLD by the authors' own Lean function (tested against real Go, not proved from fmt's source: count such statements apart). THE CARD IS WHAT COUNTS. Prove the row's statement (the work); the ties are given (YtobknfkobcbnoaaGreatDoorTie.lean); close each card by the builder's one call (the guide's Derived/Test/ToyasCard.lean, 'card_holds'). Laid BY PROGRAM, IN A SANDBOX (cutbox-door.mjs). By AI agents, Wed Nov 11 2026. No macro, syntax, notation, axiom, sorry.
-/
import Derived.Test.YtobknfkobcbnoaaGreatDoorRows
import GoSem.ClaimSeven
namespace Go.Proofs.YtobknfkobcbnoaaGreatDoor
namespace Rows

/-- THE TIED CARD OF 'klippelaw32.SliceCoordinates'. -/
def sliceCoordinatesCard : Claim7 := { stood := { row := sliceCoordinatesRow, standIns := [], harness := (true, "bfa7d2ccd637792d5594b7c498e5b85c2e6b63b4f4a485e21e0964a280fbb0eb"), looks := true }, kinds := [], alts := [], laidByText := true, laidKinds := [.data, .data, .data, .sentinel, .sentinel], laidTests := true, laidLooks := .later }
def SliceCoordinatesCardSaid : Prop := Claim7.holds Tryz.pinned (.plain (OpenSpec.ofChange sliceCoordinatesSpec)) sliceCoordinatesCard

/-- THE SECOND FORM's CARD OF 'klippelaw32.SliceCoordinates'. -/
def sliceCoordinatesUptoCard : Claim7 := { stood := { row := sliceCoordinatesUptoRow, standIns := [], harness := (true, "bfa7d2ccd637792d5594b7c498e5b85c2e6b63b4f4a485e21e0964a280fbb0eb"), looks := true }, kinds := [], alts := [], laidByText := true, laidKinds := [.data, .data, .data, .sentinel, .sentinel], laidTests := true, laidLooks := .later }
def SliceCoordinatesUptoCardSaid : Prop := Claim7.holds Tryz.pinned (.plain (OpenSpec.upto sliceCoordinatesSpec)) sliceCoordinatesUptoCard
end Rows
end Go.Proofs.YtobknfkobcbnoaaGreatDoor
