/-
  DERIVED. GIVEN WITH THE SEED: THE CARDS: each row of YtimcnhlcepemjaaGreatDoorRows.lean that lists a variable, with what it lists TIED to the program's text (the seventh form; the later family's looks); each row that meets fmt, with fmt's text TOLD by the authors' own Lean function (tested against real Go, not proved from fmt's source: count such statements apart). THE CARD IS WHAT COUNTS. Prove the row's statement (the work); the ties are given (YtimcnhlcepemjaaGreatDoorTie.lean); close each card by the builder's one call (the guide's Derived/Test/ToyasCard.lean, 'card_holds'). Laid BY PROGRAM, IN A SANDBOX (cutbox-door.mjs). By AI agents, Wed Nov 11 2026. No macro, syntax, notation, axiom, sorry.
-/
import Derived.Test.YtimcnhlcepemjaaGreatDoorRows
import GoSem.ClaimSeven
namespace Go.Proofs.YtimcnhlcepemjaaGreatDoor
namespace Rows

/-- THE TIED CARD OF 'gleanlaw24.LedgerPlays'. -/
def ledgerPlaysCard : Claim7 := { stood := { row := ledgerPlaysRow, standIns := [], harness := (true, "a482ad0f94bad1849af47f041c075bcce7669f5bf4f243a8faaeba09a8552039"), looks := true }, kinds := [], alts := [], laidByText := true, laidKinds := [.data, .data, .data, .data, .sentinel, .sentinel, .pinned], laidTests := true, laidLooks := .later }
def LedgerPlaysCardSaid : Prop := Claim7.holds Tryz.pinned (.plain (OpenSpec.ofChange ledgerPlaysSpec)) ledgerPlaysCard

/-- THE TIED CARD OF 'gleanlaw24.LedgerFits'. -/
def ledgerFitsCard : Claim7 := { stood := { row := ledgerFitsRow, standIns := [], harness := (true, "a482ad0f94bad1849af47f041c075bcce7669f5bf4f243a8faaeba09a8552039"), looks := true }, kinds := [], alts := [], laidByText := true, laidKinds := [.data, .data, .data, .data, .sentinel, .sentinel, .pinned], laidTests := true, laidLooks := .later }
def LedgerFitsCardSaid : Prop := Claim7.holds Tryz.pinned (.plain (OpenSpec.ofChange ledgerFitsSpec)) ledgerFitsCard

/-- THE TIED CARD OF 'gleanlaw24.LedgerRoom'. -/
def ledgerRoomCard : Claim7 := { stood := { row := ledgerRoomRow, standIns := [], harness := (true, "a482ad0f94bad1849af47f041c075bcce7669f5bf4f243a8faaeba09a8552039"), looks := true }, kinds := [], alts := [], laidByText := true, laidKinds := [.data, .data, .data, .data, .sentinel, .sentinel, .pinned], laidTests := true, laidLooks := .later }
def LedgerRoomCardSaid : Prop := Claim7.holds Tryz.pinned (.plain (OpenSpec.ofChange ledgerRoomSpec)) ledgerRoomCard

/-- THE TIED CARD OF 'gleanlaw24.LedgerAdds'. -/
def ledgerAddsCard : Claim7 := { stood := { row := ledgerAddsRow, standIns := [], harness := (true, "a482ad0f94bad1849af47f041c075bcce7669f5bf4f243a8faaeba09a8552039"), looks := true }, kinds := [], alts := [], laidByText := true, laidKinds := [.data, .data, .data, .data, .sentinel, .sentinel, .pinned], laidTests := true, laidLooks := .later }
def LedgerAddsCardSaid : Prop := Claim7.holds Tryz.pinned (.plain (OpenSpec.ofChange ledgerAddsSpec)) ledgerAddsCard

/-- THE TIED CARD OF 'gleanlaw24.LedgerGives'. -/
def ledgerGivesCard : Claim7 := { stood := { row := ledgerGivesRow, standIns := [], harness := (true, "a482ad0f94bad1849af47f041c075bcce7669f5bf4f243a8faaeba09a8552039"), looks := true }, kinds := [], alts := [], laidByText := true, laidKinds := [.data, .data, .data, .data, .sentinel, .sentinel, .pinned], laidTests := true, laidLooks := .later }
def LedgerGivesCardSaid : Prop := Claim7.holds Tryz.pinned (.plain (OpenSpec.ofChange ledgerGivesSpec)) ledgerGivesCard

/-- THE TIED CARD OF 'gleanlaw24.LedgerOwes'. -/
def ledgerOwesCard : Claim7 := { stood := { row := ledgerOwesRow, standIns := [], harness := (true, "a482ad0f94bad1849af47f041c075bcce7669f5bf4f243a8faaeba09a8552039"), looks := true }, kinds := [], alts := [], laidByText := true, laidKinds := [.data, .data, .data, .data, .sentinel, .sentinel, .pinned], laidTests := true, laidLooks := .later }
def LedgerOwesCardSaid : Prop := Claim7.holds Tryz.pinned (.plain (OpenSpec.ofChange ledgerOwesSpec)) ledgerOwesCard

/-- THE SECOND FORM's CARD OF 'gleanlaw24.LedgerPlays'. -/
def ledgerPlaysUptoCard : Claim7 := { stood := { row := ledgerPlaysUptoRow, standIns := [], harness := (true, "a482ad0f94bad1849af47f041c075bcce7669f5bf4f243a8faaeba09a8552039"), looks := true }, kinds := [], alts := [], laidByText := true, laidKinds := [.data, .data, .data, .data, .sentinel, .sentinel, .pinned], laidTests := true, laidLooks := .later }
def LedgerPlaysUptoCardSaid : Prop := Claim7.holds Tryz.pinned (.plain (OpenSpec.upto ledgerPlaysSpec)) ledgerPlaysUptoCard

/-- THE SECOND FORM's CARD OF 'gleanlaw24.LedgerFits'. -/
def ledgerFitsUptoCard : Claim7 := { stood := { row := ledgerFitsUptoRow, standIns := [], harness := (true, "a482ad0f94bad1849af47f041c075bcce7669f5bf4f243a8faaeba09a8552039"), looks := true }, kinds := [], alts := [], laidByText := true, laidKinds := [.data, .data, .data, .data, .sentinel, .sentinel, .pinned], laidTests := true, laidLooks := .later }
def LedgerFitsUptoCardSaid : Prop := Claim7.holds Tryz.pinned (.plain (OpenSpec.upto ledgerFitsSpec)) ledgerFitsUptoCard

/-- THE SECOND FORM's CARD OF 'gleanlaw24.LedgerRoom'. -/
def ledgerRoomUptoCard : Claim7 := { stood := { row := ledgerRoomUptoRow, standIns := [], harness := (true, "a482ad0f94bad1849af47f041c075bcce7669f5bf4f243a8faaeba09a8552039"), looks := true }, kinds := [], alts := [], laidByText := true, laidKinds := [.data, .data, .data, .data, .sentinel, .sentinel, .pinned], laidTests := true, laidLooks := .later }
def LedgerRoomUptoCardSaid : Prop := Claim7.holds Tryz.pinned (.plain (OpenSpec.upto ledgerRoomSpec)) ledgerRoomUptoCard

/-- THE SECOND FORM's CARD OF 'gleanlaw24.LedgerAdds'. -/
def ledgerAddsUptoCard : Claim7 := { stood := { row := ledgerAddsUptoRow, standIns := [], harness := (true, "a482ad0f94bad1849af47f041c075bcce7669f5bf4f243a8faaeba09a8552039"), looks := true }, kinds := [], alts := [], laidByText := true, laidKinds := [.data, .data, .data, .data, .sentinel, .sentinel, .pinned], laidTests := true, laidLooks := .later }
def LedgerAddsUptoCardSaid : Prop := Claim7.holds Tryz.pinned (.plain (OpenSpec.upto ledgerAddsSpec)) ledgerAddsUptoCard

/-- THE SECOND FORM's CARD OF 'gleanlaw24.LedgerGives'. -/
def ledgerGivesUptoCard : Claim7 := { stood := { row := ledgerGivesUptoRow, standIns := [], harness := (true, "a482ad0f94bad1849af47f041c075bcce7669f5bf4f243a8faaeba09a8552039"), looks := true }, kinds := [], alts := [], laidByText := true, laidKinds := [.data, .data, .data, .data, .sentinel, .sentinel, .pinned], laidTests := true, laidLooks := .later }
def LedgerGivesUptoCardSaid : Prop := Claim7.holds Tryz.pinned (.plain (OpenSpec.upto ledgerGivesSpec)) ledgerGivesUptoCard

/-- THE SECOND FORM's CARD OF 'gleanlaw24.LedgerOwes'. -/
def ledgerOwesUptoCard : Claim7 := { stood := { row := ledgerOwesUptoRow, standIns := [], harness := (true, "a482ad0f94bad1849af47f041c075bcce7669f5bf4f243a8faaeba09a8552039"), looks := true }, kinds := [], alts := [], laidByText := true, laidKinds := [.data, .data, .data, .data, .sentinel, .sentinel, .pinned], laidTests := true, laidLooks := .later }
def LedgerOwesUptoCardSaid : Prop := Claim7.holds Tryz.pinned (.plain (OpenSpec.upto ledgerOwesSpec)) ledgerOwesUptoCard
end Rows
end Go.Proofs.YtimcnhlcepemjaaGreatDoor
