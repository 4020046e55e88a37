/-
  DERIVED. GIVEN WITH THE SEED: THE CARDS: each row of YtcdjjjokniinkaaGreatDoorRows.lean that lists a variable, with what it lists TIED to the program's text (the seventh form; the later family's looks); each row that meets fmt, with fmt's text TOLD by the authors' own Lean function (tested against real Go, not proved from fmt's source: count such statements apart). THE CARD IS WHAT COUNTS. Prove the row's statement (the work); the ties are given (YtcdjjjokniinkaaGreatDoorTie.lean); close each card by the builder's one call (the guide's Derived/Test/ToyasCard.lean, 'card_holds'). Laid BY PROGRAM, IN A SANDBOX (cutbox-door.mjs). By AI agents, Wed Nov 11 2026. No macro, syntax, notation, axiom, sorry.
-/
import Derived.Test.YtcdjjjokniinkaaGreatDoorRows
import GoSem.ClaimSeven
namespace Go.Proofs.YtcdjjjokniinkaaGreatDoor
namespace Rows

/-- THE TIED CARD OF 'scclaw6.MergeChain'. -/
def mergeChainCard : Claim7 := { stood := { row := mergeChainRow, standIns := [], harness := (true, "1bed95a2ccc88b01f7ef0eb8cdc5efd29e481780f848e83c356a33484e2fd0ec"), looks := true }, kinds := [], alts := [], laidByText := true, laidKinds := [.data, .data, .data, .data, .sentinel, .sentinel, .data, .data, .pinned], laidTests := true, laidLooks := .later }
def MergeChainCardSaid : Prop := Claim7.holds Tryz.pinned (.plain (OpenSpec.ofChange mergeChainSpec)) mergeChainCard

/-- THE TIED CARD OF 'scclaw1.RefsOf'. -/
def refsOfCard : Claim7 := { stood := { row := refsOfRow, standIns := [], harness := (true, "1bed95a2ccc88b01f7ef0eb8cdc5efd29e481780f848e83c356a33484e2fd0ec"), looks := true }, kinds := [], alts := [], laidByText := true, laidKinds := [.data, .data, .data, .data, .handle, .sentinel, .sentinel, .data, .data, .pinned], laidTests := true, laidLooks := .later }
def RefsOfCardSaid : Prop := Claim7.holds Tryz.pinned (.plain (OpenSpec.ofChange refsOfSpec)) refsOfCard

/-- THE SECOND FORM's CARD OF 'scclaw6.MergeChain'. -/
def mergeChainUptoCard : Claim7 := { stood := { row := mergeChainUptoRow, standIns := [], harness := (true, "1bed95a2ccc88b01f7ef0eb8cdc5efd29e481780f848e83c356a33484e2fd0ec"), looks := true }, kinds := [], alts := [], laidByText := true, laidKinds := [.data, .data, .data, .data, .sentinel, .sentinel, .data, .data, .pinned], laidTests := true, laidLooks := .later }
def MergeChainUptoCardSaid : Prop := Claim7.holds Tryz.pinned (.plain (OpenSpec.upto mergeChainSpec)) mergeChainUptoCard

/-- THE SECOND FORM's CARD OF 'scclaw1.RefsOf'. -/
def refsOfUptoCard : Claim7 := { stood := { row := refsOfUptoRow, standIns := [], harness := (true, "1bed95a2ccc88b01f7ef0eb8cdc5efd29e481780f848e83c356a33484e2fd0ec"), looks := true }, kinds := [], alts := [], laidByText := true, laidKinds := [.data, .data, .data, .data, .handle, .sentinel, .sentinel, .data, .data, .pinned], laidTests := true, laidLooks := .later }
def RefsOfUptoCardSaid : Prop := Claim7.holds Tryz.pinned (.plain (OpenSpec.upto refsOfSpec)) refsOfUptoCard
end Rows
end Go.Proofs.YtcdjjjokniinkaaGreatDoor
