/-
  DERIVED. GIVEN WITH THE SEED: THE CARDS: each row of YtkjinnjopoehhaaGreatDoorRows.lean that lists a variable, with what it lists TIED to the program's text (the seventh form; the later family's looks); each row that meets fmt, with fmt's text TOLD by the authors' own Lean function (tested against real Go, not proved from fmt's source: count such statements apart). THE CARD IS WHAT COUNTS. Prove the row's statement (the work); the ties are given (YtkjinnjopoehhaaGreatDoorTie.lean); close each card by the builder's one call (the guide's Derived/Test/ToyasCard.lean, 'card_holds'). Laid BY PROGRAM, IN A SANDBOX (cutbox-door.mjs). By AI agents, Wed Nov 11 2026. No macro, syntax, notation, axiom, sorry.
-/
import Derived.Test.YtkjinnjopoehhaaGreatDoorRows
import GoSem.ClaimSeven
namespace Go.Proofs.YtkjinnjopoehhaaGreatDoor
namespace Rows

/-- THE TIED CARD OF 'klippelaw53.QueryYounger'. -/
def queryYoungerCard : Claim7 := { stood := { row := queryYoungerRow, standIns := [], harness := (true, "0032ede56c6e42ab6cad5d8192d2e847cdaab2850de313dd69fa28b96018b51f"), looks := true }, kinds := [], alts := [], laidByText := true, laidKinds := [.data, .data, .data, .sentinel, .sentinel, .pinned, .data], laidTests := true, laidLooks := .later }
def QueryYoungerCardSaid : Prop := Claim7.holds Tryz.pinned (.plain (OpenSpec.ofChange queryYoungerSpec)) queryYoungerCard

/-- THE TIED CARD OF 'klippelaw53.QueryChecks'. -/
def queryChecksCard : Claim7 := { stood := { row := queryChecksRow, standIns := [], harness := (true, "0032ede56c6e42ab6cad5d8192d2e847cdaab2850de313dd69fa28b96018b51f"), looks := true }, kinds := [], alts := [], laidByText := true, laidKinds := [.data, .data, .data, .sentinel, .sentinel, .pinned, .data], laidTests := true, laidLooks := .later }
def QueryChecksCardSaid : Prop := Claim7.holds Tryz.pinned (.plain (OpenSpec.ofChange queryChecksSpec)) queryChecksCard

/-- THE SECOND FORM's CARD OF 'klippelaw53.QueryYounger'. -/
def queryYoungerUptoCard : Claim7 := { stood := { row := queryYoungerUptoRow, standIns := [], harness := (true, "0032ede56c6e42ab6cad5d8192d2e847cdaab2850de313dd69fa28b96018b51f"), looks := true }, kinds := [], alts := [], laidByText := true, laidKinds := [.data, .data, .data, .sentinel, .sentinel, .pinned, .data], laidTests := true, laidLooks := .later }
def QueryYoungerUptoCardSaid : Prop := Claim7.holds Tryz.pinned (.plain (OpenSpec.upto queryYoungerSpec)) queryYoungerUptoCard

/-- THE SECOND FORM's CARD OF 'klippelaw53.QueryChecks'. -/
def queryChecksUptoCard : Claim7 := { stood := { row := queryChecksUptoRow, standIns := [], harness := (true, "0032ede56c6e42ab6cad5d8192d2e847cdaab2850de313dd69fa28b96018b51f"), looks := true }, kinds := [], alts := [], laidByText := true, laidKinds := [.data, .data, .data, .sentinel, .sentinel, .pinned, .data], laidTests := true, laidLooks := .later }
def QueryChecksUptoCardSaid : Prop := Claim7.holds Tryz.pinned (.plain (OpenSpec.upto queryChecksSpec)) queryChecksUptoCard
end Rows
end Go.Proofs.YtkjinnjopoehhaaGreatDoor
