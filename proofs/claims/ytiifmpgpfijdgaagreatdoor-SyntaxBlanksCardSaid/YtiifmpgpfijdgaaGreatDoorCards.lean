/-
  DERIVED. GIVEN WITH THE SEED: THE CARDS: each row of YtiifmpgpfijdgaaGreatDoorRows.lean that lists a variable, with what it lists TIED to the program's text (the seventh form; the later family's looks); each row that meets fmt, with fmt's text TOLD by the authors' own Lean function (tested against real Go, not proved from fmt's source: count such statements apart). THE CARD IS WHAT COUNTS. Prove the row's statement (the work); the ties are given (YtiifmpgpfijdgaaGreatDoorTie.lean); close each card by the builder's one call (the guide's Derived/Test/ToyasCard.lean, 'card_holds'). Laid BY PROGRAM, IN A SANDBOX (cutbox-door.mjs). By AI agents, Wed Nov 11 2026. No macro, syntax, notation, axiom, sorry.
-/
import Derived.Test.YtiifmpgpfijdgaaGreatDoorRows
import GoSem.ClaimSeven
namespace Go.Proofs.YtiifmpgpfijdgaaGreatDoor
namespace Rows

/-- THE TIED CARD OF 'emendlaw12.SyntaxTypes'. -/
def syntaxTypesCard : Claim7 := { stood := { row := syntaxTypesRow, standIns := [], harness := (true, "1b111332fb056d3b673881c7a1dd06559da62d981888fd8435e14c25c2080257"), looks := true }, kinds := [], alts := [], laidByText := true, laidKinds := [.data, .pinned], laidTests := true, laidLooks := .later }
def SyntaxTypesCardSaid : Prop := Claim7.holds Tryz.pinned (.plain (OpenSpec.ofChange syntaxTypesSpec)) syntaxTypesCard

/-- THE TIED CARD OF 'emendlaw12.SyntaxExprs'. -/
def syntaxExprsCard : Claim7 := { stood := { row := syntaxExprsRow, standIns := [], harness := (true, "1b111332fb056d3b673881c7a1dd06559da62d981888fd8435e14c25c2080257"), looks := true }, kinds := [], alts := [], laidByText := true, laidKinds := [.data, .pinned], laidTests := true, laidLooks := .later }
def SyntaxExprsCardSaid : Prop := Claim7.holds Tryz.pinned (.plain (OpenSpec.ofChange syntaxExprsSpec)) syntaxExprsCard

/-- THE TIED CARD OF 'emendlaw12.SyntaxStmts'. -/
def syntaxStmtsCard : Claim7 := { stood := { row := syntaxStmtsRow, standIns := [], harness := (true, "1b111332fb056d3b673881c7a1dd06559da62d981888fd8435e14c25c2080257"), looks := true }, kinds := [], alts := [], laidByText := true, laidKinds := [.data, .pinned], laidTests := true, laidLooks := .later }
def SyntaxStmtsCardSaid : Prop := Claim7.holds Tryz.pinned (.plain (OpenSpec.ofChange syntaxStmtsSpec)) syntaxStmtsCard

/-- THE TIED CARD OF 'emendlaw12.SyntaxFiles'. -/
def syntaxFilesCard : Claim7 := { stood := { row := syntaxFilesRow, standIns := [], harness := (true, "1b111332fb056d3b673881c7a1dd06559da62d981888fd8435e14c25c2080257"), looks := true }, kinds := [], alts := [], laidByText := true, laidKinds := [.data, .pinned], laidTests := true, laidLooks := .later }
def SyntaxFilesCardSaid : Prop := Claim7.holds Tryz.pinned (.plain (OpenSpec.ofChange syntaxFilesSpec)) syntaxFilesCard

/-- THE TIED CARD OF 'emendlaw12.SyntaxTerms'. -/
def syntaxTermsCard : Claim7 := { stood := { row := syntaxTermsRow, standIns := [], harness := (true, "1b111332fb056d3b673881c7a1dd06559da62d981888fd8435e14c25c2080257"), looks := true }, kinds := [], alts := [], laidByText := true, laidKinds := [.data, .pinned], laidTests := true, laidLooks := .later }
def SyntaxTermsCardSaid : Prop := Claim7.holds Tryz.pinned (.plain (OpenSpec.ofChange syntaxTermsSpec)) syntaxTermsCard

/-- THE TIED CARD OF 'emendlaw12.SyntaxNested'. -/
def syntaxNestedCard : Claim7 := { stood := { row := syntaxNestedRow, standIns := [], harness := (true, "1b111332fb056d3b673881c7a1dd06559da62d981888fd8435e14c25c2080257"), looks := true }, kinds := [], alts := [], laidByText := true, laidKinds := [.data, .pinned], laidTests := true, laidLooks := .later }
def SyntaxNestedCardSaid : Prop := Claim7.holds Tryz.pinned (.plain (OpenSpec.ofChange syntaxNestedSpec)) syntaxNestedCard

/-- THE TIED CARD OF 'emendlaw12.SyntaxBlanks'. -/
def syntaxBlanksCard : Claim7 := { stood := { row := syntaxBlanksRow, standIns := [], harness := (true, "1b111332fb056d3b673881c7a1dd06559da62d981888fd8435e14c25c2080257"), looks := true }, kinds := [], alts := [], laidByText := true, laidKinds := [.data, .pinned], laidTests := true, laidLooks := .later }
def SyntaxBlanksCardSaid : Prop := Claim7.holds Tryz.pinned (.plain (OpenSpec.ofChange syntaxBlanksSpec)) syntaxBlanksCard

/-- THE TIED CARD OF 'emendlaw12.SyntaxParens'. -/
def syntaxParensCard : Claim7 := { stood := { row := syntaxParensRow, standIns := [], harness := (true, "1b111332fb056d3b673881c7a1dd06559da62d981888fd8435e14c25c2080257"), looks := true }, kinds := [], alts := [], laidByText := true, laidKinds := [.data, .pinned], laidTests := true, laidLooks := .later }
def SyntaxParensCardSaid : Prop := Claim7.holds Tryz.pinned (.plain (OpenSpec.ofChange syntaxParensSpec)) syntaxParensCard

/-- THE TIED CARD OF 'emendlaw12.SyntaxBlocks'. -/
def syntaxBlocksCard : Claim7 := { stood := { row := syntaxBlocksRow, standIns := [], harness := (true, "1b111332fb056d3b673881c7a1dd06559da62d981888fd8435e14c25c2080257"), looks := true }, kinds := [], alts := [], laidByText := true, laidKinds := [.data, .pinned], laidTests := true, laidLooks := .later }
def SyntaxBlocksCardSaid : Prop := Claim7.holds Tryz.pinned (.plain (OpenSpec.ofChange syntaxBlocksSpec)) syntaxBlocksCard

/-- THE SECOND FORM's CARD OF 'emendlaw12.SyntaxTypes'. -/
def syntaxTypesUptoCard : Claim7 := { stood := { row := syntaxTypesUptoRow, standIns := [], harness := (true, "1b111332fb056d3b673881c7a1dd06559da62d981888fd8435e14c25c2080257"), looks := true }, kinds := [], alts := [], laidByText := true, laidKinds := [.data, .pinned], laidTests := true, laidLooks := .later }
def SyntaxTypesUptoCardSaid : Prop := Claim7.holds Tryz.pinned (.plain (OpenSpec.upto syntaxTypesSpec)) syntaxTypesUptoCard

/-- THE SECOND FORM's CARD OF 'emendlaw12.SyntaxExprs'. -/
def syntaxExprsUptoCard : Claim7 := { stood := { row := syntaxExprsUptoRow, standIns := [], harness := (true, "1b111332fb056d3b673881c7a1dd06559da62d981888fd8435e14c25c2080257"), looks := true }, kinds := [], alts := [], laidByText := true, laidKinds := [.data, .pinned], laidTests := true, laidLooks := .later }
def SyntaxExprsUptoCardSaid : Prop := Claim7.holds Tryz.pinned (.plain (OpenSpec.upto syntaxExprsSpec)) syntaxExprsUptoCard

/-- THE SECOND FORM's CARD OF 'emendlaw12.SyntaxStmts'. -/
def syntaxStmtsUptoCard : Claim7 := { stood := { row := syntaxStmtsUptoRow, standIns := [], harness := (true, "1b111332fb056d3b673881c7a1dd06559da62d981888fd8435e14c25c2080257"), looks := true }, kinds := [], alts := [], laidByText := true, laidKinds := [.data, .pinned], laidTests := true, laidLooks := .later }
def SyntaxStmtsUptoCardSaid : Prop := Claim7.holds Tryz.pinned (.plain (OpenSpec.upto syntaxStmtsSpec)) syntaxStmtsUptoCard

/-- THE SECOND FORM's CARD OF 'emendlaw12.SyntaxFiles'. -/
def syntaxFilesUptoCard : Claim7 := { stood := { row := syntaxFilesUptoRow, standIns := [], harness := (true, "1b111332fb056d3b673881c7a1dd06559da62d981888fd8435e14c25c2080257"), looks := true }, kinds := [], alts := [], laidByText := true, laidKinds := [.data, .pinned], laidTests := true, laidLooks := .later }
def SyntaxFilesUptoCardSaid : Prop := Claim7.holds Tryz.pinned (.plain (OpenSpec.upto syntaxFilesSpec)) syntaxFilesUptoCard

/-- THE SECOND FORM's CARD OF 'emendlaw12.SyntaxTerms'. -/
def syntaxTermsUptoCard : Claim7 := { stood := { row := syntaxTermsUptoRow, standIns := [], harness := (true, "1b111332fb056d3b673881c7a1dd06559da62d981888fd8435e14c25c2080257"), looks := true }, kinds := [], alts := [], laidByText := true, laidKinds := [.data, .pinned], laidTests := true, laidLooks := .later }
def SyntaxTermsUptoCardSaid : Prop := Claim7.holds Tryz.pinned (.plain (OpenSpec.upto syntaxTermsSpec)) syntaxTermsUptoCard

/-- THE SECOND FORM's CARD OF 'emendlaw12.SyntaxNested'. -/
def syntaxNestedUptoCard : Claim7 := { stood := { row := syntaxNestedUptoRow, standIns := [], harness := (true, "1b111332fb056d3b673881c7a1dd06559da62d981888fd8435e14c25c2080257"), looks := true }, kinds := [], alts := [], laidByText := true, laidKinds := [.data, .pinned], laidTests := true, laidLooks := .later }
def SyntaxNestedUptoCardSaid : Prop := Claim7.holds Tryz.pinned (.plain (OpenSpec.upto syntaxNestedSpec)) syntaxNestedUptoCard

/-- THE SECOND FORM's CARD OF 'emendlaw12.SyntaxBlanks'. -/
def syntaxBlanksUptoCard : Claim7 := { stood := { row := syntaxBlanksUptoRow, standIns := [], harness := (true, "1b111332fb056d3b673881c7a1dd06559da62d981888fd8435e14c25c2080257"), looks := true }, kinds := [], alts := [], laidByText := true, laidKinds := [.data, .pinned], laidTests := true, laidLooks := .later }
def SyntaxBlanksUptoCardSaid : Prop := Claim7.holds Tryz.pinned (.plain (OpenSpec.upto syntaxBlanksSpec)) syntaxBlanksUptoCard

/-- THE SECOND FORM's CARD OF 'emendlaw12.SyntaxParens'. -/
def syntaxParensUptoCard : Claim7 := { stood := { row := syntaxParensUptoRow, standIns := [], harness := (true, "1b111332fb056d3b673881c7a1dd06559da62d981888fd8435e14c25c2080257"), looks := true }, kinds := [], alts := [], laidByText := true, laidKinds := [.data, .pinned], laidTests := true, laidLooks := .later }
def SyntaxParensUptoCardSaid : Prop := Claim7.holds Tryz.pinned (.plain (OpenSpec.upto syntaxParensSpec)) syntaxParensUptoCard

/-- THE SECOND FORM's CARD OF 'emendlaw12.SyntaxBlocks'. -/
def syntaxBlocksUptoCard : Claim7 := { stood := { row := syntaxBlocksUptoRow, standIns := [], harness := (true, "1b111332fb056d3b673881c7a1dd06559da62d981888fd8435e14c25c2080257"), looks := true }, kinds := [], alts := [], laidByText := true, laidKinds := [.data, .pinned], laidTests := true, laidLooks := .later }
def SyntaxBlocksUptoCardSaid : Prop := Claim7.holds Tryz.pinned (.plain (OpenSpec.upto syntaxBlocksSpec)) syntaxBlocksUptoCard
end Rows
end Go.Proofs.YtiifmpgpfijdgaaGreatDoor
