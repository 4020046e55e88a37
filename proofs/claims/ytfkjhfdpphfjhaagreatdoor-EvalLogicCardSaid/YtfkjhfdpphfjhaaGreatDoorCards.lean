/-
  DERIVED. GIVEN WITH THE SEED: THE CARDS: each row of YtfkjhfdpphfjhaaGreatDoorRows.lean that lists a variable, with what it lists TIED to the program's text (the seventh form; the later family's looks); each row that meets fmt, with fmt's text TOLD by the authors' own Lean function (tested against real Go, not proved from fmt's source: count such statements apart). THE CARD IS WHAT COUNTS. Prove the row's statement (the work); the ties are given (YtfkjhfdpphfjhaaGreatDoorTie.lean); close each card by the builder's one call (the guide's Derived/Test/ToyasCard.lean, 'card_holds'). Laid BY PROGRAM, IN A SANDBOX (cutbox-door.mjs). By AI agents, Wed Nov 11 2026. No macro, syntax, notation, axiom, sorry.
-/
import Derived.Test.YtfkjhfdpphfjhaaGreatDoorRows
import GoSem.ClaimSeven
namespace Go.Proofs.YtfkjhfdpphfjhaaGreatDoor
namespace Rows

/-- THE TIED CARD OF 'scclaw2.EvalFew'. -/
def evalFewCard : Claim7 := { stood := { row := evalFewRow, standIns := [], harness := (true, "3385073cbd997bd09fe6ffb5e122982735c371078d307ff59f79f0bbb3ee150b"), looks := true }, kinds := [], alts := [], laidByText := true, laidKinds := [.data, .data, .data, .data, .sentinel, .sentinel, .data, .data, .data, .pinned], laidTests := true, laidLooks := .later }
def EvalFewCardSaid : Prop := Claim7.holds Tryz.pinned (.plain (OpenSpec.ofChange evalFewSpec)) evalFewCard

/-- THE TIED CARD OF 'scclaw6.EvalSums'. -/
def evalSumsCard : Claim7 := { stood := { row := evalSumsRow, standIns := [], harness := (true, "3385073cbd997bd09fe6ffb5e122982735c371078d307ff59f79f0bbb3ee150b"), looks := true }, kinds := [], alts := [], laidByText := true, laidKinds := [.data, .data, .data, .data, .sentinel, .sentinel, .data, .data, .data, .pinned], laidTests := true, laidLooks := .later }
def EvalSumsCardSaid : Prop := Claim7.holds Tryz.pinned (.plain (OpenSpec.ofChange evalSumsSpec)) evalSumsCard

/-- THE TIED CARD OF 'scclaw6.EvalCuts'. -/
def evalCutsCard : Claim7 := { stood := { row := evalCutsRow, standIns := [], harness := (true, "3385073cbd997bd09fe6ffb5e122982735c371078d307ff59f79f0bbb3ee150b"), looks := true }, kinds := [], alts := [], laidByText := true, laidKinds := [.data, .data, .data, .data, .sentinel, .sentinel, .data, .data, .data, .pinned], laidTests := true, laidLooks := .later }
def EvalCutsCardSaid : Prop := Claim7.holds Tryz.pinned (.plain (OpenSpec.ofChange evalCutsSpec)) evalCutsCard

/-- THE TIED CARD OF 'scclaw6.EvalFinds'. -/
def evalFindsCard : Claim7 := { stood := { row := evalFindsRow, standIns := [], harness := (true, "3385073cbd997bd09fe6ffb5e122982735c371078d307ff59f79f0bbb3ee150b"), looks := true }, kinds := [], alts := [], laidByText := true, laidKinds := [.data, .data, .data, .data, .sentinel, .sentinel, .data, .data, .data, .pinned], laidTests := true, laidLooks := .later }
def EvalFindsCardSaid : Prop := Claim7.holds Tryz.pinned (.plain (OpenSpec.ofChange evalFindsSpec)) evalFindsCard

/-- THE TIED CARD OF 'scclaw6.EvalLogic'. -/
def evalLogicCard : Claim7 := { stood := { row := evalLogicRow, standIns := [], harness := (true, "3385073cbd997bd09fe6ffb5e122982735c371078d307ff59f79f0bbb3ee150b"), looks := true }, kinds := [], alts := [], laidByText := true, laidKinds := [.data, .data, .data, .data, .sentinel, .sentinel, .data, .data, .data, .pinned], laidTests := true, laidLooks := .later }
def EvalLogicCardSaid : Prop := Claim7.holds Tryz.pinned (.plain (OpenSpec.ofChange evalLogicSpec)) evalLogicCard

/-- THE TIED CARD OF 'scclaw2.EvalWorks'. -/
def evalWorksCard : Claim7 := { stood := { row := evalWorksRow, standIns := [], harness := (true, "3385073cbd997bd09fe6ffb5e122982735c371078d307ff59f79f0bbb3ee150b"), looks := true }, kinds := [], alts := [], laidByText := true, laidKinds := [.data, .data, .data, .data, .handle, .sentinel, .sentinel, .data, .data, .data, .pinned], laidTests := true, laidLooks := .later }
def EvalWorksCardSaid : Prop := Claim7.holds Tryz.pinned (.plain (OpenSpec.ofChange evalWorksSpec)) evalWorksCard

/-- THE SECOND FORM's CARD OF 'scclaw2.EvalFew'. -/
def evalFewUptoCard : Claim7 := { stood := { row := evalFewUptoRow, standIns := [], harness := (true, "3385073cbd997bd09fe6ffb5e122982735c371078d307ff59f79f0bbb3ee150b"), looks := true }, kinds := [], alts := [], laidByText := true, laidKinds := [.data, .data, .data, .data, .sentinel, .sentinel, .data, .data, .data, .pinned], laidTests := true, laidLooks := .later }
def EvalFewUptoCardSaid : Prop := Claim7.holds Tryz.pinned (.plain (OpenSpec.upto evalFewSpec)) evalFewUptoCard

/-- THE SECOND FORM's CARD OF 'scclaw6.EvalSums'. -/
def evalSumsUptoCard : Claim7 := { stood := { row := evalSumsUptoRow, standIns := [], harness := (true, "3385073cbd997bd09fe6ffb5e122982735c371078d307ff59f79f0bbb3ee150b"), looks := true }, kinds := [], alts := [], laidByText := true, laidKinds := [.data, .data, .data, .data, .sentinel, .sentinel, .data, .data, .data, .pinned], laidTests := true, laidLooks := .later }
def EvalSumsUptoCardSaid : Prop := Claim7.holds Tryz.pinned (.plain (OpenSpec.upto evalSumsSpec)) evalSumsUptoCard

/-- THE SECOND FORM's CARD OF 'scclaw6.EvalCuts'. -/
def evalCutsUptoCard : Claim7 := { stood := { row := evalCutsUptoRow, standIns := [], harness := (true, "3385073cbd997bd09fe6ffb5e122982735c371078d307ff59f79f0bbb3ee150b"), looks := true }, kinds := [], alts := [], laidByText := true, laidKinds := [.data, .data, .data, .data, .sentinel, .sentinel, .data, .data, .data, .pinned], laidTests := true, laidLooks := .later }
def EvalCutsUptoCardSaid : Prop := Claim7.holds Tryz.pinned (.plain (OpenSpec.upto evalCutsSpec)) evalCutsUptoCard

/-- THE SECOND FORM's CARD OF 'scclaw6.EvalFinds'. -/
def evalFindsUptoCard : Claim7 := { stood := { row := evalFindsUptoRow, standIns := [], harness := (true, "3385073cbd997bd09fe6ffb5e122982735c371078d307ff59f79f0bbb3ee150b"), looks := true }, kinds := [], alts := [], laidByText := true, laidKinds := [.data, .data, .data, .data, .sentinel, .sentinel, .data, .data, .data, .pinned], laidTests := true, laidLooks := .later }
def EvalFindsUptoCardSaid : Prop := Claim7.holds Tryz.pinned (.plain (OpenSpec.upto evalFindsSpec)) evalFindsUptoCard

/-- THE SECOND FORM's CARD OF 'scclaw6.EvalLogic'. -/
def evalLogicUptoCard : Claim7 := { stood := { row := evalLogicUptoRow, standIns := [], harness := (true, "3385073cbd997bd09fe6ffb5e122982735c371078d307ff59f79f0bbb3ee150b"), looks := true }, kinds := [], alts := [], laidByText := true, laidKinds := [.data, .data, .data, .data, .sentinel, .sentinel, .data, .data, .data, .pinned], laidTests := true, laidLooks := .later }
def EvalLogicUptoCardSaid : Prop := Claim7.holds Tryz.pinned (.plain (OpenSpec.upto evalLogicSpec)) evalLogicUptoCard

/-- THE SECOND FORM's CARD OF 'scclaw2.EvalWorks'. -/
def evalWorksUptoCard : Claim7 := { stood := { row := evalWorksUptoRow, standIns := [], harness := (true, "3385073cbd997bd09fe6ffb5e122982735c371078d307ff59f79f0bbb3ee150b"), looks := true }, kinds := [], alts := [], laidByText := true, laidKinds := [.data, .data, .data, .data, .handle, .sentinel, .sentinel, .data, .data, .data, .pinned], laidTests := true, laidLooks := .later }
def EvalWorksUptoCardSaid : Prop := Claim7.holds Tryz.pinned (.plain (OpenSpec.upto evalWorksSpec)) evalWorksUptoCard
end Rows
end Go.Proofs.YtfkjhfdpphfjhaaGreatDoor
