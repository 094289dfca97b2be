/-
  DERIVED. GIVEN WITH THE SEED: THE CARDS: each row of YtifoflicflodcaaGreatDoorRows.lean that lists a variable, with what it lists TIED to the program's text (the seventh form; the later family's looks); each row that meets fmt, with fmt's text TOLD by the authors' own Lean function (tested against real Go, not proved from fmt's source: count such statements apart). THE CARD IS WHAT COUNTS. Prove the row's statement (the work); the ties are given (YtifoflicflodcaaGreatDoorTie.lean); close each card by the builder's one call (the guide's Derived/Test/ToyasCard.lean, 'card_holds'). Laid BY PROGRAM, IN A SANDBOX (cutbox-door.mjs). By AI agents, Wed Nov 11 2026. No macro, syntax, notation, axiom, sorry.
-/
import Derived.Test.YtifoflicflodcaaGreatDoorRows
import GoSem.ClaimSeven
namespace Go.Proofs.YtifoflicflodcaaGreatDoor
namespace Rows

/-- THE TIED CARD OF 'gleanlaw2.DecSums'. -/
def decSumsCard : Claim7 := { stood := { row := decSumsRow, standIns := [], harness := (true, "6f3741ccbaf8a3877b52bbb208d4d62129f5d255feb954131909182e4d5df030"), looks := true }, kinds := [], alts := [], laidByText := true, laidKinds := [.data, .data, .data, .data, .sentinel, .sentinel, .pinned], laidTests := true, laidLooks := .later }
def DecSumsCardSaid : Prop := Claim7.holds Tryz.pinned (.plain (OpenSpec.ofChange decSumsSpec)) decSumsCard

/-- THE TIED CARD OF 'gleanlaw2.DecProducts'. -/
def decProductsCard : Claim7 := { stood := { row := decProductsRow, standIns := [], harness := (true, "6f3741ccbaf8a3877b52bbb208d4d62129f5d255feb954131909182e4d5df030"), looks := true }, kinds := [], alts := [], laidByText := true, laidKinds := [.data, .data, .data, .data, .sentinel, .sentinel, .pinned], laidTests := true, laidLooks := .later }
def DecProductsCardSaid : Prop := Claim7.holds Tryz.pinned (.plain (OpenSpec.ofChange decProductsSpec)) decProductsCard

/-- THE SECOND FORM's CARD OF 'gleanlaw2.DecSums'. -/
def decSumsUptoCard : Claim7 := { stood := { row := decSumsUptoRow, standIns := [], harness := (true, "6f3741ccbaf8a3877b52bbb208d4d62129f5d255feb954131909182e4d5df030"), looks := true }, kinds := [], alts := [], laidByText := true, laidKinds := [.data, .data, .data, .data, .sentinel, .sentinel, .pinned], laidTests := true, laidLooks := .later }
def DecSumsUptoCardSaid : Prop := Claim7.holds Tryz.pinned (.plain (OpenSpec.upto decSumsSpec)) decSumsUptoCard

/-- THE SECOND FORM's CARD OF 'gleanlaw2.DecProducts'. -/
def decProductsUptoCard : Claim7 := { stood := { row := decProductsUptoRow, standIns := [], harness := (true, "6f3741ccbaf8a3877b52bbb208d4d62129f5d255feb954131909182e4d5df030"), looks := true }, kinds := [], alts := [], laidByText := true, laidKinds := [.data, .data, .data, .data, .sentinel, .sentinel, .pinned], laidTests := true, laidLooks := .later }
def DecProductsUptoCardSaid : Prop := Claim7.holds Tryz.pinned (.plain (OpenSpec.upto decProductsSpec)) decProductsUptoCard
end Rows
end Go.Proofs.YtifoflicflodcaaGreatDoor
