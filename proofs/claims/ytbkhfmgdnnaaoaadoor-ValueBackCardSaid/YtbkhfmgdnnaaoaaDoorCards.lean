/-
  DERIVED. GIVEN WITH THE SEED: THE CARDS: each row of YtbkhfmgdnnaaoaaDoorRows.lean that lists a variable, with what it lists TIED to the program's text (the seventh form; the later family's looks); each row that meets fmt, with fmt's text TOLD by the authors' own Lean function (tested against real Go, not proved from fmt's source: count such statements apart). THE CARD IS WHAT COUNTS. Prove the row's statement (the work); the ties are given (YtbkhfmgdnnaaoaaDoorTie.lean); close each card by the builder's one call (the guide's Derived/Test/ToyasCard.lean, 'card_holds'). Laid BY PROGRAM, IN A SANDBOX (cutbox-door.mjs). By AI agents, Wed Nov 11 2026. No macro, syntax, notation, axiom, sorry.
-/
import Derived.Test.YtbkhfmgdnnaaoaaDoorRows
import GoSem.ClaimSeven
namespace Go.Proofs.YtbkhfmgdnnaaoaaDoor
namespace Rows

/-- THE TIED CARD OF 'scclaw1.AddrShifts'. -/
def addrShiftsCard : Claim7 := { stood := { row := addrShiftsRow, standIns := [], harness := (true, "7a88ab25f2fa7402bb82a49148fe9b8f01b3eb5b35edd0ccef8d4d4a276b19e1"), looks := true }, kinds := [], alts := [], laidByText := true, laidKinds := [.handle], laidTests := true, laidLooks := .later }
def AddrShiftsCardSaid : Prop := Claim7.holds Tryd.pinned (.plain (OpenSpec.ofChange addrShiftsSpec)) addrShiftsCard

/-- THE TIED CARD OF 'scclaw1.AddrBack'. -/
def addrBackCard : Claim7 := { stood := { row := addrBackRow, standIns := [], harness := (true, "7a88ab25f2fa7402bb82a49148fe9b8f01b3eb5b35edd0ccef8d4d4a276b19e1"), looks := true }, kinds := [], alts := [], laidByText := true, laidKinds := [.data, .data, .data], laidTests := true, laidLooks := .later }
def AddrBackCardSaid : Prop := Claim7.holds Tryd.pinned (.plain (OpenSpec.ofChange addrBackSpec)) addrBackCard

/-- THE TIED CARD OF 'scclaw1.AddrNames'. -/
def addrNamesCard : Claim7 := { stood := { row := addrNamesRow, standIns := [], harness := (true, "7a88ab25f2fa7402bb82a49148fe9b8f01b3eb5b35edd0ccef8d4d4a276b19e1"), looks := true }, kinds := [], alts := [], laidByText := true, laidKinds := [.data, .data, .data, .handle], laidTests := true, laidLooks := .later }
def AddrNamesCardSaid : Prop := Claim7.holds Tryd.pinned (.plain (OpenSpec.ofChange addrNamesSpec)) addrNamesCard

/-- THE TIED CARD OF 'scclaw1.ValueReads'. -/
def valueReadsCard : Claim7 := { stood := { row := valueReadsRow, standIns := [], harness := (true, "7a88ab25f2fa7402bb82a49148fe9b8f01b3eb5b35edd0ccef8d4d4a276b19e1"), looks := true }, kinds := [], alts := [], laidByText := true, laidKinds := [.data, .data, .data, .data, .sentinel, .sentinel, .data, .pinned], laidTests := true, laidLooks := .later }
def ValueReadsCardSaid : Prop := Claim7.holds Tryd.pinned (.plain (OpenSpec.ofChange valueReadsSpec)) valueReadsCard

/-- THE TIED CARD OF 'scclaw1.ValueBack'. -/
def valueBackCard : Claim7 := { stood := { row := valueBackRow, standIns := [], harness := (true, "7a88ab25f2fa7402bb82a49148fe9b8f01b3eb5b35edd0ccef8d4d4a276b19e1"), looks := true }, kinds := [], alts := [], laidByText := true, laidKinds := [.data, .data, .data, .data, .sentinel, .sentinel, .data, .pinned], laidTests := true, laidLooks := .later }
def ValueBackCardSaid : Prop := Claim7.holds Tryd.pinned (.plain (OpenSpec.ofChange valueBackSpec)) valueBackCard

/-- THE TIED CARD OF 'scclaw1.ValueRing'. -/
def valueRingCard : Claim7 := { stood := { row := valueRingRow, standIns := [], harness := (true, "7a88ab25f2fa7402bb82a49148fe9b8f01b3eb5b35edd0ccef8d4d4a276b19e1"), looks := true }, kinds := [], alts := [], laidByText := true, laidKinds := [.data, .data, .data, .data, .sentinel, .sentinel, .data, .pinned], laidTests := true, laidLooks := .later }
def ValueRingCardSaid : Prop := Claim7.holds Tryd.pinned (.plain (OpenSpec.ofChange valueRingSpec)) valueRingCard

/-- THE TIED CARD OF 'scclaw1.ValueOrder'. -/
def valueOrderCard : Claim7 := { stood := { row := valueOrderRow, standIns := [], harness := (true, "7a88ab25f2fa7402bb82a49148fe9b8f01b3eb5b35edd0ccef8d4d4a276b19e1"), looks := true }, kinds := [], alts := [], laidByText := true, laidKinds := [.data, .data, .data, .data, .sentinel, .sentinel, .data, .pinned], laidTests := true, laidLooks := .later }
def ValueOrderCardSaid : Prop := Claim7.holds Tryd.pinned (.plain (OpenSpec.ofChange valueOrderSpec)) valueOrderCard

/-- THE SECOND FORM's CARD OF 'scclaw1.AddrShifts'. -/
def addrShiftsUptoCard : Claim7 := { stood := { row := addrShiftsUptoRow, standIns := [], harness := (true, "7a88ab25f2fa7402bb82a49148fe9b8f01b3eb5b35edd0ccef8d4d4a276b19e1"), looks := true }, kinds := [], alts := [], laidByText := true, laidKinds := [.handle], laidTests := true, laidLooks := .later }
def AddrShiftsUptoCardSaid : Prop := Claim7.holds Tryd.pinned (.plain (OpenSpec.upto addrShiftsSpec)) addrShiftsUptoCard

/-- THE SECOND FORM's CARD OF 'scclaw1.AddrBack'. -/
def addrBackUptoCard : Claim7 := { stood := { row := addrBackUptoRow, standIns := [], harness := (true, "7a88ab25f2fa7402bb82a49148fe9b8f01b3eb5b35edd0ccef8d4d4a276b19e1"), looks := true }, kinds := [], alts := [], laidByText := true, laidKinds := [.data, .data, .data], laidTests := true, laidLooks := .later }
def AddrBackUptoCardSaid : Prop := Claim7.holds Tryd.pinned (.plain (OpenSpec.upto addrBackSpec)) addrBackUptoCard

/-- THE SECOND FORM's CARD OF 'scclaw1.AddrNames'. -/
def addrNamesUptoCard : Claim7 := { stood := { row := addrNamesUptoRow, standIns := [], harness := (true, "7a88ab25f2fa7402bb82a49148fe9b8f01b3eb5b35edd0ccef8d4d4a276b19e1"), looks := true }, kinds := [], alts := [], laidByText := true, laidKinds := [.data, .data, .data, .handle], laidTests := true, laidLooks := .later }
def AddrNamesUptoCardSaid : Prop := Claim7.holds Tryd.pinned (.plain (OpenSpec.upto addrNamesSpec)) addrNamesUptoCard

/-- THE SECOND FORM's CARD OF 'scclaw1.ValueReads'. -/
def valueReadsUptoCard : Claim7 := { stood := { row := valueReadsUptoRow, standIns := [], harness := (true, "7a88ab25f2fa7402bb82a49148fe9b8f01b3eb5b35edd0ccef8d4d4a276b19e1"), looks := true }, kinds := [], alts := [], laidByText := true, laidKinds := [.data, .data, .data, .data, .sentinel, .sentinel, .data, .pinned], laidTests := true, laidLooks := .later }
def ValueReadsUptoCardSaid : Prop := Claim7.holds Tryd.pinned (.plain (OpenSpec.upto valueReadsSpec)) valueReadsUptoCard

/-- THE SECOND FORM's CARD OF 'scclaw1.ValueBack'. -/
def valueBackUptoCard : Claim7 := { stood := { row := valueBackUptoRow, standIns := [], harness := (true, "7a88ab25f2fa7402bb82a49148fe9b8f01b3eb5b35edd0ccef8d4d4a276b19e1"), looks := true }, kinds := [], alts := [], laidByText := true, laidKinds := [.data, .data, .data, .data, .sentinel, .sentinel, .data, .pinned], laidTests := true, laidLooks := .later }
def ValueBackUptoCardSaid : Prop := Claim7.holds Tryd.pinned (.plain (OpenSpec.upto valueBackSpec)) valueBackUptoCard

/-- THE SECOND FORM's CARD OF 'scclaw1.ValueRing'. -/
def valueRingUptoCard : Claim7 := { stood := { row := valueRingUptoRow, standIns := [], harness := (true, "7a88ab25f2fa7402bb82a49148fe9b8f01b3eb5b35edd0ccef8d4d4a276b19e1"), looks := true }, kinds := [], alts := [], laidByText := true, laidKinds := [.data, .data, .data, .data, .sentinel, .sentinel, .data, .pinned], laidTests := true, laidLooks := .later }
def ValueRingUptoCardSaid : Prop := Claim7.holds Tryd.pinned (.plain (OpenSpec.upto valueRingSpec)) valueRingUptoCard

/-- THE SECOND FORM's CARD OF 'scclaw1.ValueOrder'. -/
def valueOrderUptoCard : Claim7 := { stood := { row := valueOrderUptoRow, standIns := [], harness := (true, "7a88ab25f2fa7402bb82a49148fe9b8f01b3eb5b35edd0ccef8d4d4a276b19e1"), looks := true }, kinds := [], alts := [], laidByText := true, laidKinds := [.data, .data, .data, .data, .sentinel, .sentinel, .data, .pinned], laidTests := true, laidLooks := .later }
def ValueOrderUptoCardSaid : Prop := Claim7.holds Tryd.pinned (.plain (OpenSpec.upto valueOrderSpec)) valueOrderUptoCard
end Rows
end Go.Proofs.YtbkhfmgdnnaaoaaDoor
