/-
  DERIVED. GIVEN WITH THE SEED: THE CARDS: each row of YtfcmhmglpcimiaaGreatDoorRows.lean that lists a variable, with what it lists TIED to the program's text (the seventh form; the later family's looks); each row that meets fmt, with fmt's text TOLD by the authors' own Lean function (tested against real Go, not proved from fmt's source: count such statements apart). THE CARD IS WHAT COUNTS. Prove the row's statement (the work); the ties are given (YtfcmhmglpcimiaaGreatDoorTie.lean); close each card by the builder's one call (the guide's Derived/Test/ToyasCard.lean, 'card_holds'). Laid BY PROGRAM, IN A SANDBOX (cutbox-door.mjs). By AI agents, Wed Nov 11 2026. No macro, syntax, notation, axiom, sorry.
-/
import Derived.Test.YtfcmhmglpcimiaaGreatDoorRows
import GoSem.ClaimSeven
namespace Go.Proofs.YtfcmhmglpcimiaaGreatDoor
namespace Rows

/-- THE TIED CARD OF 'scclaw2.GraphChecks'. -/
def graphChecksCard : Claim7 := { stood := { row := graphChecksRow, standIns := [], harness := (true, "3df7938e40d5a9b7e5e689a60386304707ad29b963c925c61d8a0edbdbc00e1a"), looks := true }, kinds := [], alts := [], laidByText := true, laidKinds := [.data, .data, .data, .data, .handle, .sentinel, .sentinel, .data, .data, .pinned], laidTests := true, laidLooks := .later }
def GraphChecksCardSaid : Prop := Claim7.holds Tryz.pinned (.plain (OpenSpec.ofChange graphChecksSpec)) graphChecksCard

/-- THE TIED CARD OF 'scclaw2.GraphCircle'. -/
def graphCircleCard : Claim7 := { stood := { row := graphCircleRow, standIns := [], harness := (true, "3df7938e40d5a9b7e5e689a60386304707ad29b963c925c61d8a0edbdbc00e1a"), looks := true }, kinds := [], alts := [], laidByText := true, laidKinds := [.data, .data, .data, .data, .handle, .sentinel, .sentinel, .data, .data, .pinned], laidTests := true, laidLooks := .later }
def GraphCircleCardSaid : Prop := Claim7.holds Tryz.pinned (.plain (OpenSpec.ofChange graphCircleSpec)) graphCircleCard

/-- THE SECOND FORM's CARD OF 'scclaw2.GraphChecks'. -/
def graphChecksUptoCard : Claim7 := { stood := { row := graphChecksUptoRow, standIns := [], harness := (true, "3df7938e40d5a9b7e5e689a60386304707ad29b963c925c61d8a0edbdbc00e1a"), looks := true }, kinds := [], alts := [], laidByText := true, laidKinds := [.data, .data, .data, .data, .handle, .sentinel, .sentinel, .data, .data, .pinned], laidTests := true, laidLooks := .later }
def GraphChecksUptoCardSaid : Prop := Claim7.holds Tryz.pinned (.plain (OpenSpec.upto graphChecksSpec)) graphChecksUptoCard

/-- THE SECOND FORM's CARD OF 'scclaw2.GraphCircle'. -/
def graphCircleUptoCard : Claim7 := { stood := { row := graphCircleUptoRow, standIns := [], harness := (true, "3df7938e40d5a9b7e5e689a60386304707ad29b963c925c61d8a0edbdbc00e1a"), looks := true }, kinds := [], alts := [], laidByText := true, laidKinds := [.data, .data, .data, .data, .handle, .sentinel, .sentinel, .data, .data, .pinned], laidTests := true, laidLooks := .later }
def GraphCircleUptoCardSaid : Prop := Claim7.holds Tryz.pinned (.plain (OpenSpec.upto graphCircleSpec)) graphCircleUptoCard
end Rows
end Go.Proofs.YtfcmhmglpcimiaaGreatDoor
