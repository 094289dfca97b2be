/-
  DERIVED. GIVEN WITH THE SEED: THE CARDS: each row of YtdafjajleglccaaGreatDoorRows.lean that lists a variable, with what it lists TIED to the program's text (the seventh form; the later family's looks); each row that meets fmt, with fmt's text TOLD by the authors' own Lean function (tested against real Go, not proved from fmt's source: count such statements apart). THE CARD IS WHAT COUNTS. Prove the row's statement (the work); the ties are given (YtdafjajleglccaaGreatDoorTie.lean); close each card by the builder's one call (the guide's Derived/Test/ToyasCard.lean, 'card_holds'). Laid BY PROGRAM, IN A SANDBOX (cutbox-door.mjs). By AI agents, Wed Nov 11 2026. No macro, syntax, notation, axiom, sorry.
-/
import Derived.Test.YtdafjajleglccaaGreatDoorRows
import GoSem.ClaimSeven
namespace Go.Proofs.YtdafjajleglccaaGreatDoor
namespace Rows

/-- THE TIED CARD OF 'gleanlaw2.DecSums'. -/
def decSumsCard : Claim7 := { stood := { row := decSumsRow, standIns := [], harness := (true, "c338452426a88d8099300111980b95b9f01decfdd993cbfb5fae88bbdd9ea813"), looks := true }, kinds := [], alts := [], laidByText := true, laidKinds := [.data, .data, .data, .data, .sentinel, .sentinel, .pinned], laidTests := true, laidLooks := .later }
def DecSumsCardSaid : Prop := Claim7.holds Tryz.pinned (.plain (OpenSpec.ofChange decSumsSpec)) decSumsCard

/-- THE TIED CARD OF 'gleanlaw2.DecProducts'. -/
def decProductsCard : Claim7 := { stood := { row := decProductsRow, standIns := [], harness := (true, "c338452426a88d8099300111980b95b9f01decfdd993cbfb5fae88bbdd9ea813"), looks := true }, kinds := [], alts := [], laidByText := true, laidKinds := [.data, .data, .data, .data, .sentinel, .sentinel, .pinned], laidTests := true, laidLooks := .later }
def DecProductsCardSaid : Prop := Claim7.holds Tryz.pinned (.plain (OpenSpec.ofChange decProductsSpec)) decProductsCard

/-- THE TIED CARD OF 'gleanlaw2.DecText'. -/
def decTextCard : Claim7 := { stood := { row := decTextRow, standIns := [], harness := (true, "c338452426a88d8099300111980b95b9f01decfdd993cbfb5fae88bbdd9ea813"), looks := true }, kinds := [], alts := [], laidByText := true, laidKinds := [.data, .data, .data, .data, .sentinel, .sentinel, .pinned], laidTests := true, laidLooks := .later }
def DecTextCardSaid : Prop := Claim7.holds Tryz.pinned (.plain (OpenSpec.ofChange decTextSpec)) decTextCard

/-- THE TIED CARD OF 'gleanlaw2.DecRounds'. -/
def decRoundsCard : Claim7 := { stood := { row := decRoundsRow, standIns := [], harness := (true, "c338452426a88d8099300111980b95b9f01decfdd993cbfb5fae88bbdd9ea813"), looks := true }, kinds := [], alts := [], laidByText := true, laidKinds := [.data, .data, .data, .data, .sentinel, .sentinel, .pinned], laidTests := true, laidLooks := .later }
def DecRoundsCardSaid : Prop := Claim7.holds Tryz.pinned (.plain (OpenSpec.ofChange decRoundsSpec)) decRoundsCard

/-- THE TIED CARD OF 'gleanlaw2.DecRises'. -/
def decRisesCard : Claim7 := { stood := { row := decRisesRow, standIns := [], harness := (true, "c338452426a88d8099300111980b95b9f01decfdd993cbfb5fae88bbdd9ea813"), looks := true }, kinds := [], alts := [], laidByText := true, laidKinds := [.data, .data, .data, .data, .sentinel, .sentinel, .pinned], laidTests := true, laidLooks := .later }
def DecRisesCardSaid : Prop := Claim7.holds Tryz.pinned (.plain (OpenSpec.ofChange decRisesSpec)) decRisesCard

/-- THE TIED CARD OF 'gleanlaw2.DecBack'. -/
def decBackCard : Claim7 := { stood := { row := decBackRow, standIns := [], harness := (true, "c338452426a88d8099300111980b95b9f01decfdd993cbfb5fae88bbdd9ea813"), looks := true }, kinds := [], alts := [], laidByText := true, laidKinds := [.data, .data, .data, .data, .sentinel, .sentinel, .pinned], laidTests := true, laidLooks := .later }
def DecBackCardSaid : Prop := Claim7.holds Tryz.pinned (.plain (OpenSpec.ofChange decBackSpec)) decBackCard

/-- THE TIED CARD OF 'gleanlaw2.DecParts'. -/
def decPartsCard : Claim7 := { stood := { row := decPartsRow, standIns := [], harness := (true, "c338452426a88d8099300111980b95b9f01decfdd993cbfb5fae88bbdd9ea813"), looks := true }, kinds := [], alts := [], laidByText := true, laidKinds := [.data, .data, .data, .data, .sentinel, .sentinel, .pinned], laidTests := true, laidLooks := .later }
def DecPartsCardSaid : Prop := Claim7.holds Tryz.pinned (.plain (OpenSpec.ofChange decPartsSpec)) decPartsCard

/-- THE TIED CARD OF 'gleanlaw2.DecOrder'. -/
def decOrderCard : Claim7 := { stood := { row := decOrderRow, standIns := [], harness := (true, "c338452426a88d8099300111980b95b9f01decfdd993cbfb5fae88bbdd9ea813"), looks := true }, kinds := [], alts := [], laidByText := true, laidKinds := [.data, .data, .data, .data, .sentinel, .sentinel, .pinned], laidTests := true, laidLooks := .later }
def DecOrderCardSaid : Prop := Claim7.holds Tryz.pinned (.plain (OpenSpec.ofChange decOrderSpec)) decOrderCard

/-- THE SECOND FORM's CARD OF 'gleanlaw2.DecSums'. -/
def decSumsUptoCard : Claim7 := { stood := { row := decSumsUptoRow, standIns := [], harness := (true, "c338452426a88d8099300111980b95b9f01decfdd993cbfb5fae88bbdd9ea813"), looks := true }, kinds := [], alts := [], laidByText := true, laidKinds := [.data, .data, .data, .data, .sentinel, .sentinel, .pinned], laidTests := true, laidLooks := .later }
def DecSumsUptoCardSaid : Prop := Claim7.holds Tryz.pinned (.plain (OpenSpec.upto decSumsSpec)) decSumsUptoCard

/-- THE SECOND FORM's CARD OF 'gleanlaw2.DecProducts'. -/
def decProductsUptoCard : Claim7 := { stood := { row := decProductsUptoRow, standIns := [], harness := (true, "c338452426a88d8099300111980b95b9f01decfdd993cbfb5fae88bbdd9ea813"), looks := true }, kinds := [], alts := [], laidByText := true, laidKinds := [.data, .data, .data, .data, .sentinel, .sentinel, .pinned], laidTests := true, laidLooks := .later }
def DecProductsUptoCardSaid : Prop := Claim7.holds Tryz.pinned (.plain (OpenSpec.upto decProductsSpec)) decProductsUptoCard

/-- THE SECOND FORM's CARD OF 'gleanlaw2.DecText'. -/
def decTextUptoCard : Claim7 := { stood := { row := decTextUptoRow, standIns := [], harness := (true, "c338452426a88d8099300111980b95b9f01decfdd993cbfb5fae88bbdd9ea813"), looks := true }, kinds := [], alts := [], laidByText := true, laidKinds := [.data, .data, .data, .data, .sentinel, .sentinel, .pinned], laidTests := true, laidLooks := .later }
def DecTextUptoCardSaid : Prop := Claim7.holds Tryz.pinned (.plain (OpenSpec.upto decTextSpec)) decTextUptoCard

/-- THE SECOND FORM's CARD OF 'gleanlaw2.DecRounds'. -/
def decRoundsUptoCard : Claim7 := { stood := { row := decRoundsUptoRow, standIns := [], harness := (true, "c338452426a88d8099300111980b95b9f01decfdd993cbfb5fae88bbdd9ea813"), looks := true }, kinds := [], alts := [], laidByText := true, laidKinds := [.data, .data, .data, .data, .sentinel, .sentinel, .pinned], laidTests := true, laidLooks := .later }
def DecRoundsUptoCardSaid : Prop := Claim7.holds Tryz.pinned (.plain (OpenSpec.upto decRoundsSpec)) decRoundsUptoCard

/-- THE SECOND FORM's CARD OF 'gleanlaw2.DecRises'. -/
def decRisesUptoCard : Claim7 := { stood := { row := decRisesUptoRow, standIns := [], harness := (true, "c338452426a88d8099300111980b95b9f01decfdd993cbfb5fae88bbdd9ea813"), looks := true }, kinds := [], alts := [], laidByText := true, laidKinds := [.data, .data, .data, .data, .sentinel, .sentinel, .pinned], laidTests := true, laidLooks := .later }
def DecRisesUptoCardSaid : Prop := Claim7.holds Tryz.pinned (.plain (OpenSpec.upto decRisesSpec)) decRisesUptoCard

/-- THE SECOND FORM's CARD OF 'gleanlaw2.DecBack'. -/
def decBackUptoCard : Claim7 := { stood := { row := decBackUptoRow, standIns := [], harness := (true, "c338452426a88d8099300111980b95b9f01decfdd993cbfb5fae88bbdd9ea813"), looks := true }, kinds := [], alts := [], laidByText := true, laidKinds := [.data, .data, .data, .data, .sentinel, .sentinel, .pinned], laidTests := true, laidLooks := .later }
def DecBackUptoCardSaid : Prop := Claim7.holds Tryz.pinned (.plain (OpenSpec.upto decBackSpec)) decBackUptoCard

/-- THE SECOND FORM's CARD OF 'gleanlaw2.DecParts'. -/
def decPartsUptoCard : Claim7 := { stood := { row := decPartsUptoRow, standIns := [], harness := (true, "c338452426a88d8099300111980b95b9f01decfdd993cbfb5fae88bbdd9ea813"), looks := true }, kinds := [], alts := [], laidByText := true, laidKinds := [.data, .data, .data, .data, .sentinel, .sentinel, .pinned], laidTests := true, laidLooks := .later }
def DecPartsUptoCardSaid : Prop := Claim7.holds Tryz.pinned (.plain (OpenSpec.upto decPartsSpec)) decPartsUptoCard

/-- THE SECOND FORM's CARD OF 'gleanlaw2.DecOrder'. -/
def decOrderUptoCard : Claim7 := { stood := { row := decOrderUptoRow, standIns := [], harness := (true, "c338452426a88d8099300111980b95b9f01decfdd993cbfb5fae88bbdd9ea813"), looks := true }, kinds := [], alts := [], laidByText := true, laidKinds := [.data, .data, .data, .data, .sentinel, .sentinel, .pinned], laidTests := true, laidLooks := .later }
def DecOrderUptoCardSaid : Prop := Claim7.holds Tryz.pinned (.plain (OpenSpec.upto decOrderSpec)) decOrderUptoCard
end Rows
end Go.Proofs.YtdafjajleglccaaGreatDoor
