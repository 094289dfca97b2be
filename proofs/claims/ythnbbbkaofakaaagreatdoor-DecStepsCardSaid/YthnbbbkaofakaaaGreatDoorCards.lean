/-
  DERIVED. GIVEN WITH THE SEED: THE CARDS: each row of YthnbbbkaofakaaaGreatDoorRows.lean that lists a variable, with what it lists TIED to the program's text (the seventh form; the later family's looks); each row that meets fmt, with fmt's text TOLD by the authors' own Lean function (tested against real Go, not proved from fmt's source: count such statements apart). THE CARD IS WHAT COUNTS. Prove the row's statement (the work); the ties are given (YthnbbbkaofakaaaGreatDoorTie.lean); close each card by the builder's one call (the guide's Derived/Test/ToyasCard.lean, 'card_holds'). Laid BY PROGRAM, IN A SANDBOX (cutbox-door.mjs). By AI agents, Wed Nov 11 2026. No macro, syntax, notation, axiom, sorry.
-/
import Derived.Test.YthnbbbkaofakaaaGreatDoorRows
import GoSem.ClaimSeven
namespace Go.Proofs.YthnbbbkaofakaaaGreatDoor
namespace Rows

/-- THE TIED CARD OF 'gleanlaw2.DecSteps'. -/
def decStepsCard : Claim7 := { stood := { row := decStepsRow, standIns := [], harness := (true, "4e4d9c85d825d452c5801d1a56dcbee4cb865eb324db78209209b2b2fc8fed34"), looks := true }, kinds := [], alts := [], laidByText := true, laidKinds := [.data, .data, .data, .data, .sentinel, .sentinel, .pinned], laidTests := true, laidLooks := .later }
def DecStepsCardSaid : Prop := Claim7.holds Tryz.pinned (.plain (OpenSpec.ofChange decStepsSpec)) decStepsCard

/-- THE SECOND FORM's CARD OF 'gleanlaw2.DecSteps'. -/
def decStepsUptoCard : Claim7 := { stood := { row := decStepsUptoRow, standIns := [], harness := (true, "4e4d9c85d825d452c5801d1a56dcbee4cb865eb324db78209209b2b2fc8fed34"), looks := true }, kinds := [], alts := [], laidByText := true, laidKinds := [.data, .data, .data, .data, .sentinel, .sentinel, .pinned], laidTests := true, laidLooks := .later }
def DecStepsUptoCardSaid : Prop := Claim7.holds Tryz.pinned (.plain (OpenSpec.upto decStepsSpec)) decStepsUptoCard
end Rows
end Go.Proofs.YthnbbbkaofakaaaGreatDoor
