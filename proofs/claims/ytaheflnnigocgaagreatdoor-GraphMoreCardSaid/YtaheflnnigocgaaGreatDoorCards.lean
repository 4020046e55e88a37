/-
  DERIVED. GIVEN WITH THE SEED: THE CARDS: each row of YtaheflnnigocgaaGreatDoorRows.lean that lists a variable, with what it lists TIED to the program's text (the seventh form; the later family's looks); each row that meets fmt, with fmt's text TOLD by the authors' own Lean function (tested against real Go, not proved from fmt's source: count such statements apart). THE CARD IS WHAT COUNTS. Prove the row's statement (the work); the ties are given (YtaheflnnigocgaaGreatDoorTie.lean); close each card by the builder's one call (the guide's Derived/Test/ToyasCard.lean, 'card_holds'). Laid BY PROGRAM, IN A SANDBOX (cutbox-door.mjs). By AI agents, Wed Nov 11 2026. No macro, syntax, notation, axiom, sorry.
-/
import Derived.Test.YtaheflnnigocgaaGreatDoorRows
import GoSem.ClaimSeven
namespace Go.Proofs.YtaheflnnigocgaaGreatDoor
namespace Rows

/-- THE TIED CARD OF 'scclaw6.GraphMore'. -/
def graphMoreCard : Claim7 := { stood := { row := graphMoreRow, standIns := [], harness := (true, "063ae5bedcf97e029e3b30c6fdbdcc4f0a298583747fad3bf856a30bb63deaa9"), looks := true }, kinds := [], alts := [], laidByText := true, laidKinds := [.data, .data, .data, .data, .sentinel, .sentinel, .data, .data, .pinned], laidTests := true, laidLooks := .later }
def GraphMoreCardSaid : Prop := Claim7.holds Tryz.pinned (.plain (OpenSpec.ofChange graphMoreSpec)) graphMoreCard

/-- THE TIED CARD OF 'scclaw2.GraphWitness'. -/
def graphWitnessCard : Claim7 := { stood := { row := graphWitnessRow, standIns := [], harness := (true, "063ae5bedcf97e029e3b30c6fdbdcc4f0a298583747fad3bf856a30bb63deaa9"), looks := true }, kinds := [], alts := [], laidByText := true, laidKinds := [.data, .data, .data, .data, .sentinel, .sentinel, .data, .data, .pinned], laidTests := true, laidLooks := .later }
def GraphWitnessCardSaid : Prop := Claim7.holds Tryz.pinned (.plain (OpenSpec.ofChange graphWitnessSpec)) graphWitnessCard

/-- THE TIED CARD OF 'scclaw2.GraphOrders'. -/
def graphOrdersCard : Claim7 := { stood := { row := graphOrdersRow, standIns := [], harness := (true, "063ae5bedcf97e029e3b30c6fdbdcc4f0a298583747fad3bf856a30bb63deaa9"), looks := true }, kinds := [], alts := [], laidByText := true, laidKinds := [.data, .data, .data, .data, .sentinel, .sentinel, .data, .data, .pinned], laidTests := true, laidLooks := .later }
def GraphOrdersCardSaid : Prop := Claim7.holds Tryz.pinned (.plain (OpenSpec.ofChange graphOrdersSpec)) graphOrdersCard

/-- THE SECOND FORM's CARD OF 'scclaw6.GraphMore'. -/
def graphMoreUptoCard : Claim7 := { stood := { row := graphMoreUptoRow, standIns := [], harness := (true, "063ae5bedcf97e029e3b30c6fdbdcc4f0a298583747fad3bf856a30bb63deaa9"), looks := true }, kinds := [], alts := [], laidByText := true, laidKinds := [.data, .data, .data, .data, .sentinel, .sentinel, .data, .data, .pinned], laidTests := true, laidLooks := .later }
def GraphMoreUptoCardSaid : Prop := Claim7.holds Tryz.pinned (.plain (OpenSpec.upto graphMoreSpec)) graphMoreUptoCard

/-- THE SECOND FORM's CARD OF 'scclaw2.GraphWitness'. -/
def graphWitnessUptoCard : Claim7 := { stood := { row := graphWitnessUptoRow, standIns := [], harness := (true, "063ae5bedcf97e029e3b30c6fdbdcc4f0a298583747fad3bf856a30bb63deaa9"), looks := true }, kinds := [], alts := [], laidByText := true, laidKinds := [.data, .data, .data, .data, .sentinel, .sentinel, .data, .data, .pinned], laidTests := true, laidLooks := .later }
def GraphWitnessUptoCardSaid : Prop := Claim7.holds Tryz.pinned (.plain (OpenSpec.upto graphWitnessSpec)) graphWitnessUptoCard

/-- THE SECOND FORM's CARD OF 'scclaw2.GraphOrders'. -/
def graphOrdersUptoCard : Claim7 := { stood := { row := graphOrdersUptoRow, standIns := [], harness := (true, "063ae5bedcf97e029e3b30c6fdbdcc4f0a298583747fad3bf856a30bb63deaa9"), looks := true }, kinds := [], alts := [], laidByText := true, laidKinds := [.data, .data, .data, .data, .sentinel, .sentinel, .data, .data, .pinned], laidTests := true, laidLooks := .later }
def GraphOrdersUptoCardSaid : Prop := Claim7.holds Tryz.pinned (.plain (OpenSpec.upto graphOrdersSpec)) graphOrdersUptoCard
end Rows
end Go.Proofs.YtaheflnnigocgaaGreatDoor
