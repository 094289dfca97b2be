/-
  DERIVED. GIVEN WITH THE SEED: THE CARDS: each row of YtnfjfgfkeigkiaaGreatDoorRows.lean that lists a variable, with what it lists TIED to the program's text (the seventh form; the later family's looks); each row that meets fmt, with fmt's text TOLD by the authors' own Lean function (tested against real Go, not proved from fmt's source: count such statements apart). THE CARD IS WHAT COUNTS. Prove the row's statement (the work); the ties are given (YtnfjfgfkeigkiaaGreatDoorTie.lean); close each card by the builder's one call (the guide's Derived/Test/ToyasCard.lean, 'card_holds'). Laid BY PROGRAM, IN A SANDBOX (cutbox-door.mjs). By AI agents, Wed Nov 11 2026. No macro, syntax, notation, axiom, sorry.
-/
import Derived.Test.YtnfjfgfkeigkiaaGreatDoorRows
import GoSem.ClaimSeven
namespace Go.Proofs.YtnfjfgfkeigkiaaGreatDoor
namespace Rows

/-- THE TIED CARD OF 'gleanlaw3.RatSums'. -/
def ratSumsCard : Claim7 := { stood := { row := ratSumsRow, standIns := [], harness := (true, "76d34c96a09fab2b661b3ebdc10e47b811f7cfe38523b2c216129c536022baa1"), looks := false }, kinds := [], alts := [], laidByText := true, laidKinds := [.data, .data, .data, .data, .pinned], laidTests := true, laidLooks := .later }
def RatSumsCardSaid : Prop := Claim7.holds Tryz.pinned (.plain (OpenSpec.ofChange ratSumsSpec)) ratSumsCard

/-- THE TIED CARD OF 'gleanlaw3.RatSum'. -/
def ratSumCard : Claim7 := { stood := { row := ratSumRow, standIns := [], harness := (true, "76d34c96a09fab2b661b3ebdc10e47b811f7cfe38523b2c216129c536022baa1"), looks := false }, kinds := [], alts := [], laidByText := true, laidKinds := [.data, .data, .data, .data, .pinned], laidTests := true, laidLooks := .later }
def RatSumCardSaid : Prop := Claim7.holds Tryz.pinned (.plain (OpenSpec.ofChange ratSumSpec)) ratSumCard

/-- THE TIED CARD OF 'gleanlaw3.RatSplit'. -/
def ratSplitCard : Claim7 := { stood := { row := ratSplitRow, standIns := [], harness := (true, "76d34c96a09fab2b661b3ebdc10e47b811f7cfe38523b2c216129c536022baa1"), looks := false }, kinds := [], alts := [], laidByText := true, laidKinds := [.data, .data, .data, .data, .pinned], laidTests := true, laidLooks := .later }
def RatSplitCardSaid : Prop := Claim7.holds Tryz.pinned (.plain (OpenSpec.ofChange ratSplitSpec)) ratSplitCard

/-- THE TIED CARD OF 'gleanlaw3.RatLaws'. -/
def ratLawsCard : Claim7 := { stood := { row := ratLawsRow, standIns := [], harness := (true, "76d34c96a09fab2b661b3ebdc10e47b811f7cfe38523b2c216129c536022baa1"), looks := false }, kinds := [], alts := [], laidByText := true, laidKinds := [.data, .data, .data, .data, .pinned], laidTests := true, laidLooks := .later }
def RatLawsCardSaid : Prop := Claim7.holds Tryz.pinned (.plain (OpenSpec.ofChange ratLawsSpec)) ratLawsCard

/-- THE TIED CARD OF 'gleanlaw3.RatOrder'. -/
def ratOrderCard : Claim7 := { stood := { row := ratOrderRow, standIns := [], harness := (true, "76d34c96a09fab2b661b3ebdc10e47b811f7cfe38523b2c216129c536022baa1"), looks := false }, kinds := [], alts := [], laidByText := true, laidKinds := [.data, .data, .data, .data, .pinned], laidTests := true, laidLooks := .later }
def RatOrderCardSaid : Prop := Claim7.holds Tryz.pinned (.plain (OpenSpec.ofChange ratOrderSpec)) ratOrderCard

/-- THE TIED CARD OF 'gleanlaw3.RatMade'. -/
def ratMadeCard : Claim7 := { stood := { row := ratMadeRow, standIns := [], harness := (true, "76d34c96a09fab2b661b3ebdc10e47b811f7cfe38523b2c216129c536022baa1"), looks := false }, kinds := [], alts := [], laidByText := true, laidKinds := [.data, .data, .data, .data, .pinned], laidTests := true, laidLooks := .later }
def RatMadeCardSaid : Prop := Claim7.holds Tryz.pinned (.plain (OpenSpec.ofChange ratMadeSpec)) ratMadeCard

/-- THE TIED CARD OF 'gleanlaw3.RatDown'. -/
def ratDownCard : Claim7 := { stood := { row := ratDownRow, standIns := [], harness := (true, "76d34c96a09fab2b661b3ebdc10e47b811f7cfe38523b2c216129c536022baa1"), looks := false }, kinds := [], alts := [], laidByText := true, laidKinds := [.data, .data, .data, .data, .pinned], laidTests := true, laidLooks := .later }
def RatDownCardSaid : Prop := Claim7.holds Tryz.pinned (.plain (OpenSpec.ofChange ratDownSpec)) ratDownCard

/-- THE SECOND FORM's CARD OF 'gleanlaw3.RatSums'. -/
def ratSumsUptoCard : Claim7 := { stood := { row := ratSumsUptoRow, standIns := [], harness := (true, "76d34c96a09fab2b661b3ebdc10e47b811f7cfe38523b2c216129c536022baa1"), looks := false }, kinds := [], alts := [], laidByText := true, laidKinds := [.data, .data, .data, .data, .pinned], laidTests := true, laidLooks := .later }
def RatSumsUptoCardSaid : Prop := Claim7.holds Tryz.pinned (.plain (OpenSpec.upto ratSumsSpec)) ratSumsUptoCard

/-- THE SECOND FORM's CARD OF 'gleanlaw3.RatSum'. -/
def ratSumUptoCard : Claim7 := { stood := { row := ratSumUptoRow, standIns := [], harness := (true, "76d34c96a09fab2b661b3ebdc10e47b811f7cfe38523b2c216129c536022baa1"), looks := false }, kinds := [], alts := [], laidByText := true, laidKinds := [.data, .data, .data, .data, .pinned], laidTests := true, laidLooks := .later }
def RatSumUptoCardSaid : Prop := Claim7.holds Tryz.pinned (.plain (OpenSpec.upto ratSumSpec)) ratSumUptoCard

/-- THE SECOND FORM's CARD OF 'gleanlaw3.RatSplit'. -/
def ratSplitUptoCard : Claim7 := { stood := { row := ratSplitUptoRow, standIns := [], harness := (true, "76d34c96a09fab2b661b3ebdc10e47b811f7cfe38523b2c216129c536022baa1"), looks := false }, kinds := [], alts := [], laidByText := true, laidKinds := [.data, .data, .data, .data, .pinned], laidTests := true, laidLooks := .later }
def RatSplitUptoCardSaid : Prop := Claim7.holds Tryz.pinned (.plain (OpenSpec.upto ratSplitSpec)) ratSplitUptoCard

/-- THE SECOND FORM's CARD OF 'gleanlaw3.RatLaws'. -/
def ratLawsUptoCard : Claim7 := { stood := { row := ratLawsUptoRow, standIns := [], harness := (true, "76d34c96a09fab2b661b3ebdc10e47b811f7cfe38523b2c216129c536022baa1"), looks := false }, kinds := [], alts := [], laidByText := true, laidKinds := [.data, .data, .data, .data, .pinned], laidTests := true, laidLooks := .later }
def RatLawsUptoCardSaid : Prop := Claim7.holds Tryz.pinned (.plain (OpenSpec.upto ratLawsSpec)) ratLawsUptoCard

/-- THE SECOND FORM's CARD OF 'gleanlaw3.RatOrder'. -/
def ratOrderUptoCard : Claim7 := { stood := { row := ratOrderUptoRow, standIns := [], harness := (true, "76d34c96a09fab2b661b3ebdc10e47b811f7cfe38523b2c216129c536022baa1"), looks := false }, kinds := [], alts := [], laidByText := true, laidKinds := [.data, .data, .data, .data, .pinned], laidTests := true, laidLooks := .later }
def RatOrderUptoCardSaid : Prop := Claim7.holds Tryz.pinned (.plain (OpenSpec.upto ratOrderSpec)) ratOrderUptoCard

/-- THE SECOND FORM's CARD OF 'gleanlaw3.RatMade'. -/
def ratMadeUptoCard : Claim7 := { stood := { row := ratMadeUptoRow, standIns := [], harness := (true, "76d34c96a09fab2b661b3ebdc10e47b811f7cfe38523b2c216129c536022baa1"), looks := false }, kinds := [], alts := [], laidByText := true, laidKinds := [.data, .data, .data, .data, .pinned], laidTests := true, laidLooks := .later }
def RatMadeUptoCardSaid : Prop := Claim7.holds Tryz.pinned (.plain (OpenSpec.upto ratMadeSpec)) ratMadeUptoCard

/-- THE SECOND FORM's CARD OF 'gleanlaw3.RatDown'. -/
def ratDownUptoCard : Claim7 := { stood := { row := ratDownUptoRow, standIns := [], harness := (true, "76d34c96a09fab2b661b3ebdc10e47b811f7cfe38523b2c216129c536022baa1"), looks := false }, kinds := [], alts := [], laidByText := true, laidKinds := [.data, .data, .data, .data, .pinned], laidTests := true, laidLooks := .later }
def RatDownUptoCardSaid : Prop := Claim7.holds Tryz.pinned (.plain (OpenSpec.upto ratDownSpec)) ratDownUptoCard
end Rows
end Go.Proofs.YtnfjfgfkeigkiaaGreatDoor
