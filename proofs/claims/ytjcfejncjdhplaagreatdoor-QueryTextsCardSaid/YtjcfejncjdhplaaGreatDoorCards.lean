/-
  DERIVED. GIVEN WITH THE SEED: THE CARDS: each row of YtjcfejncjdhplaaGreatDoorRows.lean that lists a variable, with what it lists TIED to the program's text (the seventh form; the later family's looks); each row that meets fmt, with fmt's text TOLD by the authors' own Lean function (tested against real Go, not proved from fmt's source: count such statements apart). THE CARD IS WHAT COUNTS. Prove the row's statement (the work); the ties are given (YtjcfejncjdhplaaGreatDoorTie.lean); close each card by the builder's one call (the guide's Derived/Test/ToyasCard.lean, 'card_holds'). Laid BY PROGRAM, IN A SANDBOX (cutbox-door.mjs). By AI agents, Wed Nov 11 2026. No macro, syntax, notation, axiom, sorry.
-/
import Derived.Test.YtjcfejncjdhplaaGreatDoorRows
import GoSem.ClaimSeven
namespace Go.Proofs.YtjcfejncjdhplaaGreatDoor
namespace Rows

/-- THE TIED CARD OF 'klippelaw53.QueryParses'. -/
def queryParsesCard : Claim7 := { stood := { row := queryParsesRow, standIns := [], harness := (true, "4069e3c7a61c0b6ed4b4eecc13fb4af6b18d2d1d474d48358473c740ffe4129a"), looks := true }, kinds := [], alts := [], laidByText := true, laidKinds := [.data, .data, .data, .sentinel, .sentinel, .pinned, .data], laidTests := true, laidLooks := .later }
def QueryParsesCardSaid : Prop := Claim7.holds Tryz.pinned (.plain (OpenSpec.ofChange queryParsesSpec)) queryParsesCard

/-- THE TIED CARD OF 'klippelaw53.QueryTexts'. -/
def queryTextsCard : Claim7 := { stood := { row := queryTextsRow, standIns := [], harness := (true, "4069e3c7a61c0b6ed4b4eecc13fb4af6b18d2d1d474d48358473c740ffe4129a"), looks := true }, kinds := [], alts := [], laidByText := true, laidKinds := [.data, .data, .data, .sentinel, .sentinel, .pinned, .data], laidTests := true, laidLooks := .later }
def QueryTextsCardSaid : Prop := Claim7.holds Tryz.pinned (.plain (OpenSpec.ofChange queryTextsSpec)) queryTextsCard

/-- THE SECOND FORM's CARD OF 'klippelaw53.QueryParses'. -/
def queryParsesUptoCard : Claim7 := { stood := { row := queryParsesUptoRow, standIns := [], harness := (true, "4069e3c7a61c0b6ed4b4eecc13fb4af6b18d2d1d474d48358473c740ffe4129a"), looks := true }, kinds := [], alts := [], laidByText := true, laidKinds := [.data, .data, .data, .sentinel, .sentinel, .pinned, .data], laidTests := true, laidLooks := .later }
def QueryParsesUptoCardSaid : Prop := Claim7.holds Tryz.pinned (.plain (OpenSpec.upto queryParsesSpec)) queryParsesUptoCard

/-- THE SECOND FORM's CARD OF 'klippelaw53.QueryTexts'. -/
def queryTextsUptoCard : Claim7 := { stood := { row := queryTextsUptoRow, standIns := [], harness := (true, "4069e3c7a61c0b6ed4b4eecc13fb4af6b18d2d1d474d48358473c740ffe4129a"), looks := true }, kinds := [], alts := [], laidByText := true, laidKinds := [.data, .data, .data, .sentinel, .sentinel, .pinned, .data], laidTests := true, laidLooks := .later }
def QueryTextsUptoCardSaid : Prop := Claim7.holds Tryz.pinned (.plain (OpenSpec.upto queryTextsSpec)) queryTextsUptoCard
end Rows
end Go.Proofs.YtjcfejncjdhplaaGreatDoor
