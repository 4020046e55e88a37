/-
  DERIVED. GIVEN WITH THE SEED: THE CARDS: each row of YtdpigpahfiachaaGreatDoorRows.lean that lists a variable, with what it lists TIED to the program's text (the seventh form; the later family's looks); each row that meets fmt, with fmt's text TOLD by the authors' own Lean function (tested against real Go, not proved from fmt's source: count such statements apart). THE CARD IS WHAT COUNTS. Prove the row's statement (the work); the ties are given (YtdpigpahfiachaaGreatDoorTie.lean); close each card by the builder's one call (the guide's Derived/Test/ToyasCard.lean, 'card_holds'). Laid BY PROGRAM, IN A SANDBOX (cutbox-door.mjs). By AI agents, Wed Nov 11 2026. No macro, syntax, notation, axiom, sorry.
-/
import Derived.Test.YtdpigpahfiachaaGreatDoorRows
import GoSem.ClaimSeven
namespace Go.Proofs.YtdpigpahfiachaaGreatDoor
namespace Rows

/-- THE TIED CARD OF 'scclaw1.FormulaParses'. -/
def formulaParsesCard : Claim7 := { stood := { row := formulaParsesRow, standIns := [], harness := (true, "585016afb0af397d9df97a4d078c9beabcdb361bf08d0457ab5e8af076e0a42a"), looks := true }, kinds := [], alts := [], laidByText := true, laidKinds := [.data, .data, .data, .data, .handle, .sentinel, .sentinel, .data, .data, .pinned], laidTests := true, laidLooks := .later }
def FormulaParsesCardSaid : Prop := Claim7.holds Tryz.pinned (.plain (OpenSpec.ofChange formulaParsesSpec)) formulaParsesCard

/-- THE TIED CARD OF 'scclaw6.FindWhole'. -/
def findWholeCard : Claim7 := { stood := { row := findWholeRow, standIns := [], harness := (true, "585016afb0af397d9df97a4d078c9beabcdb361bf08d0457ab5e8af076e0a42a"), looks := true }, kinds := [], alts := [], laidByText := true, laidKinds := [.data, .data, .data, .data, .sentinel, .sentinel, .data, .data, .pinned], laidTests := true, laidLooks := .later }
def FindWholeCardSaid : Prop := Claim7.holds Tryz.pinned (.plain (OpenSpec.ofChange findWholeSpec)) findWholeCard

/-- THE TIED CARD OF 'scclaw6.PastGroups'. -/
def pastGroupsCard : Claim7 := { stood := { row := pastGroupsRow, standIns := [], harness := (true, "585016afb0af397d9df97a4d078c9beabcdb361bf08d0457ab5e8af076e0a42a"), looks := true }, kinds := [], alts := [], laidByText := true, laidKinds := [.data, .data, .data, .data, .sentinel, .sentinel, .data, .data, .pinned], laidTests := true, laidLooks := .later }
def PastGroupsCardSaid : Prop := Claim7.holds Tryz.pinned (.plain (OpenSpec.ofChange pastGroupsSpec)) pastGroupsCard

/-- THE TIED CARD OF 'scclaw2.PastBack'. -/
def pastBackCard : Claim7 := { stood := { row := pastBackRow, standIns := [], harness := (true, "585016afb0af397d9df97a4d078c9beabcdb361bf08d0457ab5e8af076e0a42a"), looks := true }, kinds := [], alts := [], laidByText := true, laidKinds := [.data, .data, .data, .data, .sentinel, .sentinel, .data, .data, .pinned], laidTests := true, laidLooks := .later }
def PastBackCardSaid : Prop := Claim7.holds Tryz.pinned (.plain (OpenSpec.ofChange pastBackSpec)) pastBackCard

/-- THE TIED CARD OF 'scclaw1.FormulaBack'. -/
def formulaBackCard : Claim7 := { stood := { row := formulaBackRow, standIns := [], harness := (true, "585016afb0af397d9df97a4d078c9beabcdb361bf08d0457ab5e8af076e0a42a"), looks := true }, kinds := [], alts := [], laidByText := true, laidKinds := [.data, .data, .data, .data, .sentinel, .sentinel, .data, .data, .pinned], laidTests := true, laidLooks := .later }
def FormulaBackCardSaid : Prop := Claim7.holds Tryz.pinned (.plain (OpenSpec.ofChange formulaBackSpec)) formulaBackCard

/-- THE TIED CARD OF 'scclaw2.PastPlays'. -/
def pastPlaysCard : Claim7 := { stood := { row := pastPlaysRow, standIns := [], harness := (true, "585016afb0af397d9df97a4d078c9beabcdb361bf08d0457ab5e8af076e0a42a"), looks := true }, kinds := [], alts := [], laidByText := true, laidKinds := [.data, .data, .data, .data, .handle, .sentinel, .sentinel, .data, .data, .pinned], laidTests := true, laidLooks := .later }
def PastPlaysCardSaid : Prop := Claim7.holds Tryz.pinned (.plain (OpenSpec.ofChange pastPlaysSpec)) pastPlaysCard

/-- THE TIED CARD OF 'scclaw1.RefsBack'. -/
def refsBackCard : Claim7 := { stood := { row := refsBackRow, standIns := [], harness := (true, "585016afb0af397d9df97a4d078c9beabcdb361bf08d0457ab5e8af076e0a42a"), looks := true }, kinds := [], alts := [], laidByText := true, laidKinds := [.data, .data, .data, .data, .sentinel, .sentinel, .data, .data, .pinned], laidTests := true, laidLooks := .later }
def RefsBackCardSaid : Prop := Claim7.holds Tryz.pinned (.plain (OpenSpec.ofChange refsBackSpec)) refsBackCard

/-- THE TIED CARD OF 'scclaw1.FormulaPrints'. -/
def formulaPrintsCard : Claim7 := { stood := { row := formulaPrintsRow, standIns := [], harness := (true, "585016afb0af397d9df97a4d078c9beabcdb361bf08d0457ab5e8af076e0a42a"), looks := true }, kinds := [], alts := [], laidByText := true, laidKinds := [.data, .data, .data, .data, .handle, .sentinel, .sentinel, .data, .data, .pinned], laidTests := true, laidLooks := .later }
def FormulaPrintsCardSaid : Prop := Claim7.holds Tryz.pinned (.plain (OpenSpec.ofChange formulaPrintsSpec)) formulaPrintsCard

/-- THE TIED CARD OF 'scclaw1.RefsMoved'. -/
def refsMovedCard : Claim7 := { stood := { row := refsMovedRow, standIns := [], harness := (true, "585016afb0af397d9df97a4d078c9beabcdb361bf08d0457ab5e8af076e0a42a"), looks := true }, kinds := [], alts := [], laidByText := true, laidKinds := [.data, .data, .data, .data, .handle, .sentinel, .sentinel, .data, .data, .pinned], laidTests := true, laidLooks := .later }
def RefsMovedCardSaid : Prop := Claim7.holds Tryz.pinned (.plain (OpenSpec.ofChange refsMovedSpec)) refsMovedCard

/-- THE TIED CARD OF 'scclaw1.RefsInserted'. -/
def refsInsertedCard : Claim7 := { stood := { row := refsInsertedRow, standIns := [], harness := (true, "585016afb0af397d9df97a4d078c9beabcdb361bf08d0457ab5e8af076e0a42a"), looks := true }, kinds := [], alts := [], laidByText := true, laidKinds := [.data, .data, .data, .data, .handle, .sentinel, .sentinel, .data, .data, .pinned], laidTests := true, laidLooks := .later }
def RefsInsertedCardSaid : Prop := Claim7.holds Tryz.pinned (.plain (OpenSpec.ofChange refsInsertedSpec)) refsInsertedCard

/-- THE TIED CARD OF 'scclaw1.RefsCarried'. -/
def refsCarriedCard : Claim7 := { stood := { row := refsCarriedRow, standIns := [], harness := (true, "585016afb0af397d9df97a4d078c9beabcdb361bf08d0457ab5e8af076e0a42a"), looks := true }, kinds := [], alts := [], laidByText := true, laidKinds := [.data, .data, .data, .data, .handle, .sentinel, .sentinel, .data, .data, .pinned], laidTests := true, laidLooks := .later }
def RefsCarriedCardSaid : Prop := Claim7.holds Tryz.pinned (.plain (OpenSpec.ofChange refsCarriedSpec)) refsCarriedCard

/-- THE TIED CARD OF 'scclaw1.RefsDeleted'. -/
def refsDeletedCard : Claim7 := { stood := { row := refsDeletedRow, standIns := [], harness := (true, "585016afb0af397d9df97a4d078c9beabcdb361bf08d0457ab5e8af076e0a42a"), looks := true }, kinds := [], alts := [], laidByText := true, laidKinds := [.data, .data, .data, .data, .handle, .sentinel, .sentinel, .data, .data, .pinned], laidTests := true, laidLooks := .later }
def RefsDeletedCardSaid : Prop := Claim7.holds Tryz.pinned (.plain (OpenSpec.ofChange refsDeletedSpec)) refsDeletedCard

/-- THE SECOND FORM's CARD OF 'scclaw1.FormulaParses'. -/
def formulaParsesUptoCard : Claim7 := { stood := { row := formulaParsesUptoRow, standIns := [], harness := (true, "585016afb0af397d9df97a4d078c9beabcdb361bf08d0457ab5e8af076e0a42a"), looks := true }, kinds := [], alts := [], laidByText := true, laidKinds := [.data, .data, .data, .data, .handle, .sentinel, .sentinel, .data, .data, .pinned], laidTests := true, laidLooks := .later }
def FormulaParsesUptoCardSaid : Prop := Claim7.holds Tryz.pinned (.plain (OpenSpec.upto formulaParsesSpec)) formulaParsesUptoCard

/-- THE SECOND FORM's CARD OF 'scclaw6.FindWhole'. -/
def findWholeUptoCard : Claim7 := { stood := { row := findWholeUptoRow, standIns := [], harness := (true, "585016afb0af397d9df97a4d078c9beabcdb361bf08d0457ab5e8af076e0a42a"), looks := true }, kinds := [], alts := [], laidByText := true, laidKinds := [.data, .data, .data, .data, .sentinel, .sentinel, .data, .data, .pinned], laidTests := true, laidLooks := .later }
def FindWholeUptoCardSaid : Prop := Claim7.holds Tryz.pinned (.plain (OpenSpec.upto findWholeSpec)) findWholeUptoCard

/-- THE SECOND FORM's CARD OF 'scclaw6.PastGroups'. -/
def pastGroupsUptoCard : Claim7 := { stood := { row := pastGroupsUptoRow, standIns := [], harness := (true, "585016afb0af397d9df97a4d078c9beabcdb361bf08d0457ab5e8af076e0a42a"), looks := true }, kinds := [], alts := [], laidByText := true, laidKinds := [.data, .data, .data, .data, .sentinel, .sentinel, .data, .data, .pinned], laidTests := true, laidLooks := .later }
def PastGroupsUptoCardSaid : Prop := Claim7.holds Tryz.pinned (.plain (OpenSpec.upto pastGroupsSpec)) pastGroupsUptoCard

/-- THE SECOND FORM's CARD OF 'scclaw2.PastBack'. -/
def pastBackUptoCard : Claim7 := { stood := { row := pastBackUptoRow, standIns := [], harness := (true, "585016afb0af397d9df97a4d078c9beabcdb361bf08d0457ab5e8af076e0a42a"), looks := true }, kinds := [], alts := [], laidByText := true, laidKinds := [.data, .data, .data, .data, .sentinel, .sentinel, .data, .data, .pinned], laidTests := true, laidLooks := .later }
def PastBackUptoCardSaid : Prop := Claim7.holds Tryz.pinned (.plain (OpenSpec.upto pastBackSpec)) pastBackUptoCard

/-- THE SECOND FORM's CARD OF 'scclaw1.FormulaBack'. -/
def formulaBackUptoCard : Claim7 := { stood := { row := formulaBackUptoRow, standIns := [], harness := (true, "585016afb0af397d9df97a4d078c9beabcdb361bf08d0457ab5e8af076e0a42a"), looks := true }, kinds := [], alts := [], laidByText := true, laidKinds := [.data, .data, .data, .data, .sentinel, .sentinel, .data, .data, .pinned], laidTests := true, laidLooks := .later }
def FormulaBackUptoCardSaid : Prop := Claim7.holds Tryz.pinned (.plain (OpenSpec.upto formulaBackSpec)) formulaBackUptoCard

/-- THE SECOND FORM's CARD OF 'scclaw2.PastPlays'. -/
def pastPlaysUptoCard : Claim7 := { stood := { row := pastPlaysUptoRow, standIns := [], harness := (true, "585016afb0af397d9df97a4d078c9beabcdb361bf08d0457ab5e8af076e0a42a"), looks := true }, kinds := [], alts := [], laidByText := true, laidKinds := [.data, .data, .data, .data, .handle, .sentinel, .sentinel, .data, .data, .pinned], laidTests := true, laidLooks := .later }
def PastPlaysUptoCardSaid : Prop := Claim7.holds Tryz.pinned (.plain (OpenSpec.upto pastPlaysSpec)) pastPlaysUptoCard

/-- THE SECOND FORM's CARD OF 'scclaw1.RefsBack'. -/
def refsBackUptoCard : Claim7 := { stood := { row := refsBackUptoRow, standIns := [], harness := (true, "585016afb0af397d9df97a4d078c9beabcdb361bf08d0457ab5e8af076e0a42a"), looks := true }, kinds := [], alts := [], laidByText := true, laidKinds := [.data, .data, .data, .data, .sentinel, .sentinel, .data, .data, .pinned], laidTests := true, laidLooks := .later }
def RefsBackUptoCardSaid : Prop := Claim7.holds Tryz.pinned (.plain (OpenSpec.upto refsBackSpec)) refsBackUptoCard

/-- THE SECOND FORM's CARD OF 'scclaw1.FormulaPrints'. -/
def formulaPrintsUptoCard : Claim7 := { stood := { row := formulaPrintsUptoRow, standIns := [], harness := (true, "585016afb0af397d9df97a4d078c9beabcdb361bf08d0457ab5e8af076e0a42a"), looks := true }, kinds := [], alts := [], laidByText := true, laidKinds := [.data, .data, .data, .data, .handle, .sentinel, .sentinel, .data, .data, .pinned], laidTests := true, laidLooks := .later }
def FormulaPrintsUptoCardSaid : Prop := Claim7.holds Tryz.pinned (.plain (OpenSpec.upto formulaPrintsSpec)) formulaPrintsUptoCard

/-- THE SECOND FORM's CARD OF 'scclaw1.RefsMoved'. -/
def refsMovedUptoCard : Claim7 := { stood := { row := refsMovedUptoRow, standIns := [], harness := (true, "585016afb0af397d9df97a4d078c9beabcdb361bf08d0457ab5e8af076e0a42a"), looks := true }, kinds := [], alts := [], laidByText := true, laidKinds := [.data, .data, .data, .data, .handle, .sentinel, .sentinel, .data, .data, .pinned], laidTests := true, laidLooks := .later }
def RefsMovedUptoCardSaid : Prop := Claim7.holds Tryz.pinned (.plain (OpenSpec.upto refsMovedSpec)) refsMovedUptoCard

/-- THE SECOND FORM's CARD OF 'scclaw1.RefsInserted'. -/
def refsInsertedUptoCard : Claim7 := { stood := { row := refsInsertedUptoRow, standIns := [], harness := (true, "585016afb0af397d9df97a4d078c9beabcdb361bf08d0457ab5e8af076e0a42a"), looks := true }, kinds := [], alts := [], laidByText := true, laidKinds := [.data, .data, .data, .data, .handle, .sentinel, .sentinel, .data, .data, .pinned], laidTests := true, laidLooks := .later }
def RefsInsertedUptoCardSaid : Prop := Claim7.holds Tryz.pinned (.plain (OpenSpec.upto refsInsertedSpec)) refsInsertedUptoCard

/-- THE SECOND FORM's CARD OF 'scclaw1.RefsCarried'. -/
def refsCarriedUptoCard : Claim7 := { stood := { row := refsCarriedUptoRow, standIns := [], harness := (true, "585016afb0af397d9df97a4d078c9beabcdb361bf08d0457ab5e8af076e0a42a"), looks := true }, kinds := [], alts := [], laidByText := true, laidKinds := [.data, .data, .data, .data, .handle, .sentinel, .sentinel, .data, .data, .pinned], laidTests := true, laidLooks := .later }
def RefsCarriedUptoCardSaid : Prop := Claim7.holds Tryz.pinned (.plain (OpenSpec.upto refsCarriedSpec)) refsCarriedUptoCard

/-- THE SECOND FORM's CARD OF 'scclaw1.RefsDeleted'. -/
def refsDeletedUptoCard : Claim7 := { stood := { row := refsDeletedUptoRow, standIns := [], harness := (true, "585016afb0af397d9df97a4d078c9beabcdb361bf08d0457ab5e8af076e0a42a"), looks := true }, kinds := [], alts := [], laidByText := true, laidKinds := [.data, .data, .data, .data, .handle, .sentinel, .sentinel, .data, .data, .pinned], laidTests := true, laidLooks := .later }
def RefsDeletedUptoCardSaid : Prop := Claim7.holds Tryz.pinned (.plain (OpenSpec.upto refsDeletedSpec)) refsDeletedUptoCard
end Rows
end Go.Proofs.YtdpigpahfiachaaGreatDoor
