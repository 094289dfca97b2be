/-
  DERIVED. GIVEN WITH THE SEED: THE CARDS: each row of YtkdkgmnjhimdeaaGreatDoorRows.lean that lists a variable, with what it lists TIED to the program's text (the seventh form; the later family's looks); each row that meets fmt, with fmt's text TOLD by the authors' own Lean function (tested against real Go, not proved from fmt's source: count such statements apart). THE CARD IS WHAT COUNTS. Prove the row's statement (the work); the ties are given (YtkdkgmnjhimdeaaGreatDoorTie.lean); close each card by the builder's one call (the guide's Derived/Test/ToyasCard.lean, 'card_holds'). Laid BY PROGRAM, IN A SANDBOX (cutbox-door.mjs). By AI agents, Wed Nov 11 2026. No macro, syntax, notation, axiom, sorry.
-/
import Derived.Test.YtkdkgmnjhimdeaaGreatDoorRows
import GoSem.ClaimSeven
namespace Go.Proofs.YtkdkgmnjhimdeaaGreatDoor
namespace Rows

/-- THE TIED CARD OF 'gleanlaw1.NatSums'. -/
def natSumsCard : Claim7 := { stood := { row := natSumsRow, standIns := [], harness := (true, "6e9f5a1d050812d7933e299f66b341e06a68341743da1add985f1e2ecadc5778"), looks := true }, kinds := [], alts := [], laidByText := true, laidKinds := [.data, .data, .data, .data, .sentinel, .sentinel, .pinned], laidTests := true, laidLooks := .later }
def NatSumsCardSaid : Prop := Claim7.holds Tryz.pinned (.plain (OpenSpec.ofChange natSumsSpec)) natSumsCard

/-- THE TIED CARD OF 'gleanlaw1.NatQuotients'. -/
def natQuotientsCard : Claim7 := { stood := { row := natQuotientsRow, standIns := [], harness := (true, "6e9f5a1d050812d7933e299f66b341e06a68341743da1add985f1e2ecadc5778"), looks := true }, kinds := [], alts := [], laidByText := true, laidKinds := [.data, .data, .data, .data, .sentinel, .sentinel, .pinned], laidTests := true, laidLooks := .later }
def NatQuotientsCardSaid : Prop := Claim7.holds Tryz.pinned (.plain (OpenSpec.ofChange natQuotientsSpec)) natQuotientsCard

/-- THE TIED CARD OF 'gleanlaw1.NatGcd'. -/
def natGcdCard : Claim7 := { stood := { row := natGcdRow, standIns := [], harness := (true, "6e9f5a1d050812d7933e299f66b341e06a68341743da1add985f1e2ecadc5778"), looks := true }, kinds := [], alts := [], laidByText := true, laidKinds := [.data, .data, .data, .data, .sentinel, .sentinel, .pinned], laidTests := true, laidLooks := .later }
def NatGcdCardSaid : Prop := Claim7.holds Tryz.pinned (.plain (OpenSpec.ofChange natGcdSpec)) natGcdCard

/-- THE TIED CARD OF 'gleanlaw1.NatBytes'. -/
def natBytesCard : Claim7 := { stood := { row := natBytesRow, standIns := [], harness := (true, "6e9f5a1d050812d7933e299f66b341e06a68341743da1add985f1e2ecadc5778"), looks := true }, kinds := [], alts := [], laidByText := true, laidKinds := [.data, .data, .data, .data, .sentinel, .sentinel, .pinned], laidTests := true, laidLooks := .later }
def NatBytesCardSaid : Prop := Claim7.holds Tryz.pinned (.plain (OpenSpec.ofChange natBytesSpec)) natBytesCard

/-- THE TIED CARD OF 'gleanlaw1.NatText'. -/
def natTextCard : Claim7 := { stood := { row := natTextRow, standIns := [], harness := (true, "6e9f5a1d050812d7933e299f66b341e06a68341743da1add985f1e2ecadc5778"), looks := true }, kinds := [], alts := [], laidByText := true, laidKinds := [.data, .data, .data, .data, .sentinel, .sentinel, .pinned], laidTests := true, laidLooks := .later }
def NatTextCardSaid : Prop := Claim7.holds Tryz.pinned (.plain (OpenSpec.ofChange natTextSpec)) natTextCard

/-- THE TIED CARD OF 'gleanlaw1.NatLaws'. -/
def natLawsCard : Claim7 := { stood := { row := natLawsRow, standIns := [], harness := (true, "6e9f5a1d050812d7933e299f66b341e06a68341743da1add985f1e2ecadc5778"), looks := true }, kinds := [], alts := [], laidByText := true, laidKinds := [.data, .data, .data, .data, .sentinel, .sentinel, .pinned], laidTests := true, laidLooks := .later }
def NatLawsCardSaid : Prop := Claim7.holds Tryz.pinned (.plain (OpenSpec.ofChange natLawsSpec)) natLawsCard

/-- THE TIED CARD OF 'gleanlaw1.NatRest'. -/
def natRestCard : Claim7 := { stood := { row := natRestRow, standIns := [], harness := (true, "6e9f5a1d050812d7933e299f66b341e06a68341743da1add985f1e2ecadc5778"), looks := true }, kinds := [], alts := [], laidByText := true, laidKinds := [.data, .data, .data, .data, .sentinel, .sentinel, .pinned], laidTests := true, laidLooks := .later }
def NatRestCardSaid : Prop := Claim7.holds Tryz.pinned (.plain (OpenSpec.ofChange natRestSpec)) natRestCard

/-- THE TIED CARD OF 'gleanlaw1.NatBack'. -/
def natBackCard : Claim7 := { stood := { row := natBackRow, standIns := [], harness := (true, "6e9f5a1d050812d7933e299f66b341e06a68341743da1add985f1e2ecadc5778"), looks := true }, kinds := [], alts := [], laidByText := true, laidKinds := [.data, .data, .data, .data, .sentinel, .sentinel, .pinned], laidTests := true, laidLooks := .later }
def NatBackCardSaid : Prop := Claim7.holds Tryz.pinned (.plain (OpenSpec.ofChange natBackSpec)) natBackCard

/-- THE TIED CARD OF 'gleanlaw1.NatDivisor'. -/
def natDivisorCard : Claim7 := { stood := { row := natDivisorRow, standIns := [], harness := (true, "6e9f5a1d050812d7933e299f66b341e06a68341743da1add985f1e2ecadc5778"), looks := true }, kinds := [], alts := [], laidByText := true, laidKinds := [.data, .data, .data, .data, .sentinel, .sentinel, .pinned], laidTests := true, laidLooks := .later }
def NatDivisorCardSaid : Prop := Claim7.holds Tryz.pinned (.plain (OpenSpec.ofChange natDivisorSpec)) natDivisorCard

/-- THE TIED CARD OF 'gleanlaw1.NatOrder'. -/
def natOrderCard : Claim7 := { stood := { row := natOrderRow, standIns := [], harness := (true, "6e9f5a1d050812d7933e299f66b341e06a68341743da1add985f1e2ecadc5778"), looks := true }, kinds := [], alts := [], laidByText := true, laidKinds := [.data, .data, .data, .data, .sentinel, .sentinel, .pinned], laidTests := true, laidLooks := .later }
def NatOrderCardSaid : Prop := Claim7.holds Tryz.pinned (.plain (OpenSpec.ofChange natOrderSpec)) natOrderCard

/-- THE TIED CARD OF 'gleanlaw1.NatPowers'. -/
def natPowersCard : Claim7 := { stood := { row := natPowersRow, standIns := [], harness := (true, "6e9f5a1d050812d7933e299f66b341e06a68341743da1add985f1e2ecadc5778"), looks := true }, kinds := [], alts := [], laidByText := true, laidKinds := [.data, .data, .data, .data, .sentinel, .sentinel, .pinned], laidTests := true, laidLooks := .later }
def NatPowersCardSaid : Prop := Claim7.holds Tryz.pinned (.plain (OpenSpec.ofChange natPowersSpec)) natPowersCard

/-- THE TIED CARD OF 'gleanlaw1.NatScaled'. -/
def natScaledCard : Claim7 := { stood := { row := natScaledRow, standIns := [], harness := (true, "6e9f5a1d050812d7933e299f66b341e06a68341743da1add985f1e2ecadc5778"), looks := true }, kinds := [], alts := [], laidByText := true, laidKinds := [.data, .data, .data, .data, .sentinel, .sentinel, .pinned], laidTests := true, laidLooks := .later }
def NatScaledCardSaid : Prop := Claim7.holds Tryz.pinned (.plain (OpenSpec.ofChange natScaledSpec)) natScaledCard

/-- THE SECOND FORM's CARD OF 'gleanlaw1.NatSums'. -/
def natSumsUptoCard : Claim7 := { stood := { row := natSumsUptoRow, standIns := [], harness := (true, "6e9f5a1d050812d7933e299f66b341e06a68341743da1add985f1e2ecadc5778"), looks := true }, kinds := [], alts := [], laidByText := true, laidKinds := [.data, .data, .data, .data, .sentinel, .sentinel, .pinned], laidTests := true, laidLooks := .later }
def NatSumsUptoCardSaid : Prop := Claim7.holds Tryz.pinned (.plain (OpenSpec.upto natSumsSpec)) natSumsUptoCard

/-- THE SECOND FORM's CARD OF 'gleanlaw1.NatQuotients'. -/
def natQuotientsUptoCard : Claim7 := { stood := { row := natQuotientsUptoRow, standIns := [], harness := (true, "6e9f5a1d050812d7933e299f66b341e06a68341743da1add985f1e2ecadc5778"), looks := true }, kinds := [], alts := [], laidByText := true, laidKinds := [.data, .data, .data, .data, .sentinel, .sentinel, .pinned], laidTests := true, laidLooks := .later }
def NatQuotientsUptoCardSaid : Prop := Claim7.holds Tryz.pinned (.plain (OpenSpec.upto natQuotientsSpec)) natQuotientsUptoCard

/-- THE SECOND FORM's CARD OF 'gleanlaw1.NatGcd'. -/
def natGcdUptoCard : Claim7 := { stood := { row := natGcdUptoRow, standIns := [], harness := (true, "6e9f5a1d050812d7933e299f66b341e06a68341743da1add985f1e2ecadc5778"), looks := true }, kinds := [], alts := [], laidByText := true, laidKinds := [.data, .data, .data, .data, .sentinel, .sentinel, .pinned], laidTests := true, laidLooks := .later }
def NatGcdUptoCardSaid : Prop := Claim7.holds Tryz.pinned (.plain (OpenSpec.upto natGcdSpec)) natGcdUptoCard

/-- THE SECOND FORM's CARD OF 'gleanlaw1.NatBytes'. -/
def natBytesUptoCard : Claim7 := { stood := { row := natBytesUptoRow, standIns := [], harness := (true, "6e9f5a1d050812d7933e299f66b341e06a68341743da1add985f1e2ecadc5778"), looks := true }, kinds := [], alts := [], laidByText := true, laidKinds := [.data, .data, .data, .data, .sentinel, .sentinel, .pinned], laidTests := true, laidLooks := .later }
def NatBytesUptoCardSaid : Prop := Claim7.holds Tryz.pinned (.plain (OpenSpec.upto natBytesSpec)) natBytesUptoCard

/-- THE SECOND FORM's CARD OF 'gleanlaw1.NatText'. -/
def natTextUptoCard : Claim7 := { stood := { row := natTextUptoRow, standIns := [], harness := (true, "6e9f5a1d050812d7933e299f66b341e06a68341743da1add985f1e2ecadc5778"), looks := true }, kinds := [], alts := [], laidByText := true, laidKinds := [.data, .data, .data, .data, .sentinel, .sentinel, .pinned], laidTests := true, laidLooks := .later }
def NatTextUptoCardSaid : Prop := Claim7.holds Tryz.pinned (.plain (OpenSpec.upto natTextSpec)) natTextUptoCard

/-- THE SECOND FORM's CARD OF 'gleanlaw1.NatLaws'. -/
def natLawsUptoCard : Claim7 := { stood := { row := natLawsUptoRow, standIns := [], harness := (true, "6e9f5a1d050812d7933e299f66b341e06a68341743da1add985f1e2ecadc5778"), looks := true }, kinds := [], alts := [], laidByText := true, laidKinds := [.data, .data, .data, .data, .sentinel, .sentinel, .pinned], laidTests := true, laidLooks := .later }
def NatLawsUptoCardSaid : Prop := Claim7.holds Tryz.pinned (.plain (OpenSpec.upto natLawsSpec)) natLawsUptoCard

/-- THE SECOND FORM's CARD OF 'gleanlaw1.NatRest'. -/
def natRestUptoCard : Claim7 := { stood := { row := natRestUptoRow, standIns := [], harness := (true, "6e9f5a1d050812d7933e299f66b341e06a68341743da1add985f1e2ecadc5778"), looks := true }, kinds := [], alts := [], laidByText := true, laidKinds := [.data, .data, .data, .data, .sentinel, .sentinel, .pinned], laidTests := true, laidLooks := .later }
def NatRestUptoCardSaid : Prop := Claim7.holds Tryz.pinned (.plain (OpenSpec.upto natRestSpec)) natRestUptoCard

/-- THE SECOND FORM's CARD OF 'gleanlaw1.NatBack'. -/
def natBackUptoCard : Claim7 := { stood := { row := natBackUptoRow, standIns := [], harness := (true, "6e9f5a1d050812d7933e299f66b341e06a68341743da1add985f1e2ecadc5778"), looks := true }, kinds := [], alts := [], laidByText := true, laidKinds := [.data, .data, .data, .data, .sentinel, .sentinel, .pinned], laidTests := true, laidLooks := .later }
def NatBackUptoCardSaid : Prop := Claim7.holds Tryz.pinned (.plain (OpenSpec.upto natBackSpec)) natBackUptoCard

/-- THE SECOND FORM's CARD OF 'gleanlaw1.NatDivisor'. -/
def natDivisorUptoCard : Claim7 := { stood := { row := natDivisorUptoRow, standIns := [], harness := (true, "6e9f5a1d050812d7933e299f66b341e06a68341743da1add985f1e2ecadc5778"), looks := true }, kinds := [], alts := [], laidByText := true, laidKinds := [.data, .data, .data, .data, .sentinel, .sentinel, .pinned], laidTests := true, laidLooks := .later }
def NatDivisorUptoCardSaid : Prop := Claim7.holds Tryz.pinned (.plain (OpenSpec.upto natDivisorSpec)) natDivisorUptoCard

/-- THE SECOND FORM's CARD OF 'gleanlaw1.NatOrder'. -/
def natOrderUptoCard : Claim7 := { stood := { row := natOrderUptoRow, standIns := [], harness := (true, "6e9f5a1d050812d7933e299f66b341e06a68341743da1add985f1e2ecadc5778"), looks := true }, kinds := [], alts := [], laidByText := true, laidKinds := [.data, .data, .data, .data, .sentinel, .sentinel, .pinned], laidTests := true, laidLooks := .later }
def NatOrderUptoCardSaid : Prop := Claim7.holds Tryz.pinned (.plain (OpenSpec.upto natOrderSpec)) natOrderUptoCard

/-- THE SECOND FORM's CARD OF 'gleanlaw1.NatPowers'. -/
def natPowersUptoCard : Claim7 := { stood := { row := natPowersUptoRow, standIns := [], harness := (true, "6e9f5a1d050812d7933e299f66b341e06a68341743da1add985f1e2ecadc5778"), looks := true }, kinds := [], alts := [], laidByText := true, laidKinds := [.data, .data, .data, .data, .sentinel, .sentinel, .pinned], laidTests := true, laidLooks := .later }
def NatPowersUptoCardSaid : Prop := Claim7.holds Tryz.pinned (.plain (OpenSpec.upto natPowersSpec)) natPowersUptoCard

/-- THE SECOND FORM's CARD OF 'gleanlaw1.NatScaled'. -/
def natScaledUptoCard : Claim7 := { stood := { row := natScaledUptoRow, standIns := [], harness := (true, "6e9f5a1d050812d7933e299f66b341e06a68341743da1add985f1e2ecadc5778"), looks := true }, kinds := [], alts := [], laidByText := true, laidKinds := [.data, .data, .data, .data, .sentinel, .sentinel, .pinned], laidTests := true, laidLooks := .later }
def NatScaledUptoCardSaid : Prop := Claim7.holds Tryz.pinned (.plain (OpenSpec.upto natScaledSpec)) natScaledUptoCard
end Rows
end Go.Proofs.YtkdkgmnjhimdeaaGreatDoor
