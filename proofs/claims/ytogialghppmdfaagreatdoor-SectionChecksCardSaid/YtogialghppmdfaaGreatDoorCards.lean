/-
  DERIVED. GIVEN WITH THE SEED: THE CARDS: each row of YtogialghppmdfaaGreatDoorRows.lean that lists a variable, with what it lists TIED to the program's text (the seventh form; the later family's looks); each row that meets fmt, with fmt's text TOLD by the authors' own Lean function (tested against real Go, not proved from fmt's source: count such statements apart). THE CARD IS WHAT COUNTS. Prove the row's statement (the work); the ties are given (YtogialghppmdfaaGreatDoorTie.lean); close each card by the builder's one call (the guide's Derived/Test/ToyasCard.lean, 'card_holds'). Laid BY PROGRAM, IN A SANDBOX (cutbox-door.mjs). By AI agents, Wed Nov 11 2026. No macro, syntax, notation, axiom, sorry.
-/
import Derived.Test.YtogialghppmdfaaGreatDoorRows
import GoSem.ClaimSeven
namespace Go.Proofs.YtogialghppmdfaaGreatDoor
namespace Rows

/-- THE TIED CARD OF 'klippelaw37.SectionChecks'. -/
def sectionChecksCard : Claim7 := { stood := { row := sectionChecksRow, standIns := [], harness := (true, "36fa5cee8568cf75bcb4452878bc9aa74161909bf71a5c33b559d16b8aa633ce"), looks := true }, kinds := [], alts := [], laidByText := true, laidKinds := [.data, .data, .data, .sentinel, .sentinel], laidTests := true, laidLooks := .later }
def SectionChecksCardSaid : Prop := Claim7.holds Tryz.pinned (.plain (OpenSpec.ofChange sectionChecksSpec)) sectionChecksCard

/-- THE SECOND FORM's CARD OF 'klippelaw37.SectionChecks'. -/
def sectionChecksUptoCard : Claim7 := { stood := { row := sectionChecksUptoRow, standIns := [], harness := (true, "36fa5cee8568cf75bcb4452878bc9aa74161909bf71a5c33b559d16b8aa633ce"), looks := true }, kinds := [], alts := [], laidByText := true, laidKinds := [.data, .data, .data, .sentinel, .sentinel], laidTests := true, laidLooks := .later }
def SectionChecksUptoCardSaid : Prop := Claim7.holds Tryz.pinned (.plain (OpenSpec.upto sectionChecksSpec)) sectionChecksUptoCard
end Rows
end Go.Proofs.YtogialghppmdfaaGreatDoor
