/-
  DERIVED. GIVEN WITH THE SEED: THE CARDS: each row of YtkgiaicagecmpaaGreatDoorRows.lean that lists a variable, with what it lists TIED to the program's text (the seventh form; the later family's looks); each row that meets fmt, with fmt's text TOLD by the authors' own Lean function (tested against real Go, not proved from fmt's source: count such statements apart). THE CARD IS WHAT COUNTS. Prove the row's statement (the work); the ties are given (YtkgiaicagecmpaaGreatDoorTie.lean); close each card by the builder's one call (the guide's Derived/Test/ToyasCard.lean, 'card_holds'). Laid BY PROGRAM, IN A SANDBOX (cutbox-door.mjs). By AI agents, Wed Nov 11 2026. No macro, syntax, notation, axiom, sorry.
-/
import Derived.Test.YtkgiaicagecmpaaGreatDoorRows
import GoSem.ClaimSeven
namespace Go.Proofs.YtkgiaicagecmpaaGreatDoor
namespace Rows

/-- THE TIED CARD OF 'klippelaw34.OutcropFrames'. -/
def outcropFramesCard : Claim7 := { stood := { row := outcropFramesRow, standIns := [], harness := (true, "f05f409385ec5f32416fd934fce0a5ea47e958a496d8480ac7f8eb45ddd6488b"), looks := true }, kinds := [], alts := [], laidByText := true, laidKinds := [.data, .data, .data, .sentinel, .sentinel], laidTests := true, laidLooks := .later }
def OutcropFramesCardSaid : Prop := Claim7.holds Tryz.pinned (.plain (OpenSpec.ofChange outcropFramesSpec)) outcropFramesCard

/-- THE SECOND FORM's CARD OF 'klippelaw34.OutcropFrames'. -/
def outcropFramesUptoCard : Claim7 := { stood := { row := outcropFramesUptoRow, standIns := [], harness := (true, "f05f409385ec5f32416fd934fce0a5ea47e958a496d8480ac7f8eb45ddd6488b"), looks := true }, kinds := [], alts := [], laidByText := true, laidKinds := [.data, .data, .data, .sentinel, .sentinel], laidTests := true, laidLooks := .later }
def OutcropFramesUptoCardSaid : Prop := Claim7.holds Tryz.pinned (.plain (OpenSpec.upto outcropFramesSpec)) outcropFramesUptoCard
end Rows
end Go.Proofs.YtkgiaicagecmpaaGreatDoor
