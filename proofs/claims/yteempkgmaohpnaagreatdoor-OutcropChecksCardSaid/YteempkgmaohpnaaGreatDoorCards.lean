/-
  DERIVED. GIVEN WITH THE SEED: THE CARDS: each row of YteempkgmaohpnaaGreatDoorRows.lean that lists a variable, with what it lists TIED to the program's text (the seventh form; the later family's looks); each row that meets fmt, with fmt's text TOLD by the authors' own Lean function (tested against real Go, not proved from fmt's source: count such statements apart). THE CARD IS WHAT COUNTS. Prove the row's statement (the work); the ties are given (YteempkgmaohpnaaGreatDoorTie.lean); close each card by the builder's one call (the guide's Derived/Test/ToyasCard.lean, 'card_holds'). Laid BY PROGRAM, IN A SANDBOX (cutbox-door.mjs). By AI agents, Wed Nov 11 2026. No macro, syntax, notation, axiom, sorry.
-/
import Derived.Test.YteempkgmaohpnaaGreatDoorRows
import GoSem.ClaimSeven
namespace Go.Proofs.YteempkgmaohpnaaGreatDoor
namespace Rows

/-- THE TIED CARD OF 'klippelaw34.OutcropChecks'. -/
def outcropChecksCard : Claim7 := { stood := { row := outcropChecksRow, standIns := [], harness := (true, "2e38b6a8274f4aef76f38d3a7acdb7d1a78e58050b1d5e6f48185d6d7d2ab5c1"), looks := true }, kinds := [], alts := [], laidByText := true, laidKinds := [.data, .data, .data, .sentinel, .sentinel], laidTests := true, laidLooks := .later }
def OutcropChecksCardSaid : Prop := Claim7.holds Tryz.pinned (.plain (OpenSpec.ofChange outcropChecksSpec)) outcropChecksCard

/-- THE SECOND FORM's CARD OF 'klippelaw34.OutcropChecks'. -/
def outcropChecksUptoCard : Claim7 := { stood := { row := outcropChecksUptoRow, standIns := [], harness := (true, "2e38b6a8274f4aef76f38d3a7acdb7d1a78e58050b1d5e6f48185d6d7d2ab5c1"), looks := true }, kinds := [], alts := [], laidByText := true, laidKinds := [.data, .data, .data, .sentinel, .sentinel], laidTests := true, laidLooks := .later }
def OutcropChecksUptoCardSaid : Prop := Claim7.holds Tryz.pinned (.plain (OpenSpec.upto outcropChecksSpec)) outcropChecksUptoCard
end Rows
end Go.Proofs.YteempkgmaohpnaaGreatDoor
