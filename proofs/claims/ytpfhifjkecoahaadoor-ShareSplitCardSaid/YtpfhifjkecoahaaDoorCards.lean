/-
  DERIVED. GIVEN WITH THE SEED: THE CARDS: each row of YtpfhifjkecoahaaDoorRows.lean that lists a variable, with what it lists TIED to the program's text (the seventh form; the later family's looks); each row that meets fmt, with fmt's text TOLD by the authors' own Lean function (tested against real Go, not proved from fmt's source: count such statements apart). THE CARD IS WHAT COUNTS. Prove the row's statement (the work); the ties are given (YtpfhifjkecoahaaDoorTie.lean); close each card by the builder's one call (the guide's Derived/Test/ToyasCard.lean, 'card_holds'). Laid BY PROGRAM, IN A SANDBOX (cutbox-door.mjs). By AI agents, Wed Nov 11 2026. No macro, syntax, notation, axiom, sorry.
-/
import Derived.Test.YtpfhifjkecoahaaDoorRows
import GoSem.ClaimSeven
namespace Go.Proofs.YtpfhifjkecoahaaDoor
namespace Rows

/-- THE TIED CARD OF 'gleanlaw10.ShareBack'. -/
def shareBackCard : Claim7 := { stood := { row := shareBackRow, standIns := [], harness := (true, "0ca5df065ccf015a6ba12b0d317b4a24e11b7f95bb5df6afa0b74b9aa9fb2300"), looks := false }, kinds := [], alts := [], laidByText := true, laidKinds := [.data, .data, .data, .data, .pinned], laidTests := true, laidLooks := .later }
def ShareBackCardSaid : Prop := Claim7.holds Tryd.pinned (.plain (OpenSpec.ofChange shareBackSpec)) shareBackCard

/-- THE TIED CARD OF 'gleanlaw10.ShareSplit'. -/
def shareSplitCard : Claim7 := { stood := { row := shareSplitRow, standIns := [], harness := (true, "0ca5df065ccf015a6ba12b0d317b4a24e11b7f95bb5df6afa0b74b9aa9fb2300"), looks := false }, kinds := [], alts := [], laidByText := true, laidKinds := [.data, .data, .data, .data, .pinned], laidTests := true, laidLooks := .later }
def ShareSplitCardSaid : Prop := Claim7.holds Tryd.pinned (.plain (OpenSpec.ofChange shareSplitSpec)) shareSplitCard

/-- THE TIED CARD OF 'gleanlaw10.ShareTwo'. -/
def shareTwoCard : Claim7 := { stood := { row := shareTwoRow, standIns := [], harness := (true, "0ca5df065ccf015a6ba12b0d317b4a24e11b7f95bb5df6afa0b74b9aa9fb2300"), looks := false }, kinds := [], alts := [], laidByText := true, laidKinds := [.data, .data, .data, .data, .pinned], laidTests := true, laidLooks := .later }
def ShareTwoCardSaid : Prop := Claim7.holds Tryd.pinned (.plain (OpenSpec.ofChange shareTwoSpec)) shareTwoCard

/-- THE TIED CARD OF 'gleanlaw10.ShareLeave'. -/
def shareLeaveCard : Claim7 := { stood := { row := shareLeaveRow, standIns := [], harness := (true, "0ca5df065ccf015a6ba12b0d317b4a24e11b7f95bb5df6afa0b74b9aa9fb2300"), looks := false }, kinds := [], alts := [], laidByText := true, laidKinds := [.data, .data, .data, .data, .pinned], laidTests := true, laidLooks := .later }
def ShareLeaveCardSaid : Prop := Claim7.holds Tryd.pinned (.plain (OpenSpec.ofChange shareLeaveSpec)) shareLeaveCard

/-- THE SECOND FORM's CARD OF 'gleanlaw10.ShareBack'. -/
def shareBackUptoCard : Claim7 := { stood := { row := shareBackUptoRow, standIns := [], harness := (true, "0ca5df065ccf015a6ba12b0d317b4a24e11b7f95bb5df6afa0b74b9aa9fb2300"), looks := false }, kinds := [], alts := [], laidByText := true, laidKinds := [.data, .data, .data, .data, .pinned], laidTests := true, laidLooks := .later }
def ShareBackUptoCardSaid : Prop := Claim7.holds Tryd.pinned (.plain (OpenSpec.upto shareBackSpec)) shareBackUptoCard

/-- THE SECOND FORM's CARD OF 'gleanlaw10.ShareSplit'. -/
def shareSplitUptoCard : Claim7 := { stood := { row := shareSplitUptoRow, standIns := [], harness := (true, "0ca5df065ccf015a6ba12b0d317b4a24e11b7f95bb5df6afa0b74b9aa9fb2300"), looks := false }, kinds := [], alts := [], laidByText := true, laidKinds := [.data, .data, .data, .data, .pinned], laidTests := true, laidLooks := .later }
def ShareSplitUptoCardSaid : Prop := Claim7.holds Tryd.pinned (.plain (OpenSpec.upto shareSplitSpec)) shareSplitUptoCard

/-- THE SECOND FORM's CARD OF 'gleanlaw10.ShareTwo'. -/
def shareTwoUptoCard : Claim7 := { stood := { row := shareTwoUptoRow, standIns := [], harness := (true, "0ca5df065ccf015a6ba12b0d317b4a24e11b7f95bb5df6afa0b74b9aa9fb2300"), looks := false }, kinds := [], alts := [], laidByText := true, laidKinds := [.data, .data, .data, .data, .pinned], laidTests := true, laidLooks := .later }
def ShareTwoUptoCardSaid : Prop := Claim7.holds Tryd.pinned (.plain (OpenSpec.upto shareTwoSpec)) shareTwoUptoCard

/-- THE SECOND FORM's CARD OF 'gleanlaw10.ShareLeave'. -/
def shareLeaveUptoCard : Claim7 := { stood := { row := shareLeaveUptoRow, standIns := [], harness := (true, "0ca5df065ccf015a6ba12b0d317b4a24e11b7f95bb5df6afa0b74b9aa9fb2300"), looks := false }, kinds := [], alts := [], laidByText := true, laidKinds := [.data, .data, .data, .data, .pinned], laidTests := true, laidLooks := .later }
def ShareLeaveUptoCardSaid : Prop := Claim7.holds Tryd.pinned (.plain (OpenSpec.upto shareLeaveSpec)) shareLeaveUptoCard
end Rows
end Go.Proofs.YtpfhifjkecoahaaDoor
