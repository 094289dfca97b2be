/-
  DERIVED. GIVEN WITH THE SEED: THE CARDS: each row of YtpfhifjkecoahaaGreatDoorRows.lean that lists a variable, with what it lists TIED to the program's text (the seventh form; the later family's looks); each row that meets fmt, with fmt's text TOLD by the authors' own Lean function (tested against real Go, not proved from fmt's source: count such statements apart). THE CARD IS WHAT COUNTS. Prove the row's statement (the work); the ties are given (YtpfhifjkecoahaaGreatDoorTie.lean); close each card by the builder's one call (the guide's Derived/Test/ToyasCard.lean, 'card_holds'). Laid BY PROGRAM, IN A SANDBOX (cutbox-door.mjs). By AI agents, Wed Nov 11 2026. No macro, syntax, notation, axiom, sorry.
-/
import Derived.Test.YtpfhifjkecoahaaGreatDoorRows
import GoSem.ClaimSeven
namespace Go.Proofs.YtpfhifjkecoahaaGreatDoor
namespace Rows

/-- THE TIED CARD OF 'gleanlaw10.ShareAll'. -/
def shareAllCard : Claim7 := { stood := { row := shareAllRow, standIns := [], harness := (true, "7b0268d8d3d0d6722126931b5c739c8a6a7136bc80ee82055d7de094049df9e0"), looks := false }, kinds := [], alts := [], laidByText := true, laidKinds := [.data, .data, .data, .data, .pinned], laidTests := true, laidLooks := .later }
def ShareAllCardSaid : Prop := Claim7.holds Tryz.pinned (.plain (OpenSpec.ofChange shareAllSpec)) shareAllCard

/-- THE TIED CARD OF 'gleanlaw10.ShareRate'. -/
def shareRateCard : Claim7 := { stood := { row := shareRateRow, standIns := [], harness := (true, "7b0268d8d3d0d6722126931b5c739c8a6a7136bc80ee82055d7de094049df9e0"), looks := false }, kinds := [], alts := [], laidByText := true, laidKinds := [.data, .data, .data, .data, .pinned], laidTests := true, laidLooks := .later }
def ShareRateCardSaid : Prop := Claim7.holds Tryz.pinned (.plain (OpenSpec.ofChange shareRateSpec)) shareRateCard

/-- THE SECOND FORM's CARD OF 'gleanlaw10.ShareAll'. -/
def shareAllUptoCard : Claim7 := { stood := { row := shareAllUptoRow, standIns := [], harness := (true, "7b0268d8d3d0d6722126931b5c739c8a6a7136bc80ee82055d7de094049df9e0"), looks := false }, kinds := [], alts := [], laidByText := true, laidKinds := [.data, .data, .data, .data, .pinned], laidTests := true, laidLooks := .later }
def ShareAllUptoCardSaid : Prop := Claim7.holds Tryz.pinned (.plain (OpenSpec.upto shareAllSpec)) shareAllUptoCard

/-- THE SECOND FORM's CARD OF 'gleanlaw10.ShareRate'. -/
def shareRateUptoCard : Claim7 := { stood := { row := shareRateUptoRow, standIns := [], harness := (true, "7b0268d8d3d0d6722126931b5c739c8a6a7136bc80ee82055d7de094049df9e0"), looks := false }, kinds := [], alts := [], laidByText := true, laidKinds := [.data, .data, .data, .data, .pinned], laidTests := true, laidLooks := .later }
def ShareRateUptoCardSaid : Prop := Claim7.holds Tryz.pinned (.plain (OpenSpec.upto shareRateSpec)) shareRateUptoCard
end Rows
end Go.Proofs.YtpfhifjkecoahaaGreatDoor
