/-
  DERIVED. GIVEN WITH THE SEED: THE CARDS: each row of YtbkhfmgdnnaaoaaGreatDoorRows.lean that lists a variable, with what it lists TIED to the program's text (the seventh form; the later family's looks); each row that meets fmt, with fmt's text TOLD by the authors' own Lean function (tested against real Go, not proved from fmt's source: count such statements apart). THE CARD IS WHAT COUNTS. Prove the row's statement (the work); the ties are given (YtbkhfmgdnnaaoaaGreatDoorTie.lean); close each card by the builder's one call (the guide's Derived/Test/ToyasCard.lean, 'card_holds'). Laid BY PROGRAM, IN A SANDBOX (cutbox-door.mjs). By AI agents, Wed Nov 11 2026. No macro, syntax, notation, axiom, sorry.
-/
import Derived.Test.YtbkhfmgdnnaaoaaGreatDoorRows
import GoSem.ClaimSeven
namespace Go.Proofs.YtbkhfmgdnnaaoaaGreatDoor
namespace Rows

/-- THE TIED CARD OF 'scclaw1.ValueTwo'. -/
def valueTwoCard : Claim7 := { stood := { row := valueTwoRow, standIns := [], harness := (true, "0ecb9e16a614a79a874c5c35e02a1a9489e2afb05f239fd1ed78a73c8f9690fb"), looks := true }, kinds := [], alts := [], laidByText := true, laidKinds := [.data, .data, .data, .data, .sentinel, .sentinel, .data, .pinned], laidTests := true, laidLooks := .later }
def ValueTwoCardSaid : Prop := Claim7.holds Tryz.pinned (.plain (OpenSpec.ofChange valueTwoSpec)) valueTwoCard

/-- THE TIED CARD OF 'scclaw1.ValueMakes'. -/
def valueMakesCard : Claim7 := { stood := { row := valueMakesRow, standIns := [], harness := (true, "0ecb9e16a614a79a874c5c35e02a1a9489e2afb05f239fd1ed78a73c8f9690fb"), looks := true }, kinds := [], alts := [], laidByText := true, laidKinds := [.data, .data, .data, .data, .handle, .sentinel, .sentinel, .data, .pinned], laidTests := true, laidLooks := .later }
def ValueMakesCardSaid : Prop := Claim7.holds Tryz.pinned (.plain (OpenSpec.ofChange valueMakesSpec)) valueMakesCard

/-- THE TIED CARD OF 'scclaw1.FormulaParses'. -/
def formulaParsesCard : Claim7 := { stood := { row := formulaParsesRow, standIns := [], harness := (true, "0ecb9e16a614a79a874c5c35e02a1a9489e2afb05f239fd1ed78a73c8f9690fb"), looks := true }, kinds := [], alts := [], laidByText := true, laidKinds := [.data, .data, .data, .data, .handle, .sentinel, .sentinel, .data, .data, .pinned], laidTests := true, laidLooks := .later }
def FormulaParsesCardSaid : Prop := Claim7.holds Tryz.pinned (.plain (OpenSpec.ofChange formulaParsesSpec)) formulaParsesCard

/-- THE SECOND FORM's CARD OF 'scclaw1.ValueTwo'. -/
def valueTwoUptoCard : Claim7 := { stood := { row := valueTwoUptoRow, standIns := [], harness := (true, "0ecb9e16a614a79a874c5c35e02a1a9489e2afb05f239fd1ed78a73c8f9690fb"), looks := true }, kinds := [], alts := [], laidByText := true, laidKinds := [.data, .data, .data, .data, .sentinel, .sentinel, .data, .pinned], laidTests := true, laidLooks := .later }
def ValueTwoUptoCardSaid : Prop := Claim7.holds Tryz.pinned (.plain (OpenSpec.upto valueTwoSpec)) valueTwoUptoCard

/-- THE SECOND FORM's CARD OF 'scclaw1.ValueMakes'. -/
def valueMakesUptoCard : Claim7 := { stood := { row := valueMakesUptoRow, standIns := [], harness := (true, "0ecb9e16a614a79a874c5c35e02a1a9489e2afb05f239fd1ed78a73c8f9690fb"), looks := true }, kinds := [], alts := [], laidByText := true, laidKinds := [.data, .data, .data, .data, .handle, .sentinel, .sentinel, .data, .pinned], laidTests := true, laidLooks := .later }
def ValueMakesUptoCardSaid : Prop := Claim7.holds Tryz.pinned (.plain (OpenSpec.upto valueMakesSpec)) valueMakesUptoCard

/-- THE SECOND FORM's CARD OF 'scclaw1.FormulaParses'. -/
def formulaParsesUptoCard : Claim7 := { stood := { row := formulaParsesUptoRow, standIns := [], harness := (true, "0ecb9e16a614a79a874c5c35e02a1a9489e2afb05f239fd1ed78a73c8f9690fb"), looks := true }, kinds := [], alts := [], laidByText := true, laidKinds := [.data, .data, .data, .data, .handle, .sentinel, .sentinel, .data, .data, .pinned], laidTests := true, laidLooks := .later }
def FormulaParsesUptoCardSaid : Prop := Claim7.holds Tryz.pinned (.plain (OpenSpec.upto formulaParsesSpec)) formulaParsesUptoCard
end Rows
end Go.Proofs.YtbkhfmgdnnaaoaaGreatDoor
