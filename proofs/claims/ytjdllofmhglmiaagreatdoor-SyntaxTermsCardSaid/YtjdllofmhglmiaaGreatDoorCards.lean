/-
  DERIVED. GIVEN WITH THE SEED: THE CARDS: each row of YtjdllofmhglmiaaGreatDoorRows.lean that lists a variable, with what it lists TIED to the program's text (the seventh form; the later family's looks); each row that meets fmt, with fmt's text TOLD by the authors' own Lean function (tested against real Go, not proved from fmt's source: count such statements apart). THE CARD IS WHAT COUNTS. Prove the row's statement (the work); the ties are given (YtjdllofmhglmiaaGreatDoorTie.lean); close each card by the builder's one call (the guide's Derived/Test/ToyasCard.lean, 'card_holds'). Laid BY PROGRAM, IN A SANDBOX (cutbox-door.mjs). By AI agents, Wed Nov 11 2026. No macro, syntax, notation, axiom, sorry.
-/
import Derived.Test.YtjdllofmhglmiaaGreatDoorRows
import GoSem.ClaimSeven
namespace Go.Proofs.YtjdllofmhglmiaaGreatDoor
namespace Rows

/-- THE TIED CARD OF 'emendlaw12.SyntaxTypes'. -/
def syntaxTypesCard : Claim7 := { stood := { row := syntaxTypesRow, standIns := [], harness := (true, "480b6226f8b6ad432b6fa4d0622f88aaf59d89b8e9a3b9f85881faac6b3d48a3"), looks := true }, kinds := [], alts := [], laidByText := true, laidKinds := [.data, .pinned], laidTests := true, laidLooks := .later }
def SyntaxTypesCardSaid : Prop := Claim7.holds Tryz.pinned (.plain (OpenSpec.ofChange syntaxTypesSpec)) syntaxTypesCard

/-- THE TIED CARD OF 'emendlaw12.SyntaxExprs'. -/
def syntaxExprsCard : Claim7 := { stood := { row := syntaxExprsRow, standIns := [], harness := (true, "480b6226f8b6ad432b6fa4d0622f88aaf59d89b8e9a3b9f85881faac6b3d48a3"), looks := true }, kinds := [], alts := [], laidByText := true, laidKinds := [.data, .pinned], laidTests := true, laidLooks := .later }
def SyntaxExprsCardSaid : Prop := Claim7.holds Tryz.pinned (.plain (OpenSpec.ofChange syntaxExprsSpec)) syntaxExprsCard

/-- THE TIED CARD OF 'emendlaw12.SyntaxStmts'. -/
def syntaxStmtsCard : Claim7 := { stood := { row := syntaxStmtsRow, standIns := [], harness := (true, "480b6226f8b6ad432b6fa4d0622f88aaf59d89b8e9a3b9f85881faac6b3d48a3"), looks := true }, kinds := [], alts := [], laidByText := true, laidKinds := [.data, .pinned], laidTests := true, laidLooks := .later }
def SyntaxStmtsCardSaid : Prop := Claim7.holds Tryz.pinned (.plain (OpenSpec.ofChange syntaxStmtsSpec)) syntaxStmtsCard

/-- THE TIED CARD OF 'emendlaw12.SyntaxFiles'. -/
def syntaxFilesCard : Claim7 := { stood := { row := syntaxFilesRow, standIns := [], harness := (true, "480b6226f8b6ad432b6fa4d0622f88aaf59d89b8e9a3b9f85881faac6b3d48a3"), looks := true }, kinds := [], alts := [], laidByText := true, laidKinds := [.data, .pinned], laidTests := true, laidLooks := .later }
def SyntaxFilesCardSaid : Prop := Claim7.holds Tryz.pinned (.plain (OpenSpec.ofChange syntaxFilesSpec)) syntaxFilesCard

/-- THE TIED CARD OF 'emendlaw12.SyntaxTerms'. -/
def syntaxTermsCard : Claim7 := { stood := { row := syntaxTermsRow, standIns := [], harness := (true, "480b6226f8b6ad432b6fa4d0622f88aaf59d89b8e9a3b9f85881faac6b3d48a3"), looks := true }, kinds := [], alts := [], laidByText := true, laidKinds := [.data, .pinned], laidTests := true, laidLooks := .later }
def SyntaxTermsCardSaid : Prop := Claim7.holds Tryz.pinned (.plain (OpenSpec.ofChange syntaxTermsSpec)) syntaxTermsCard

/-- THE TIED CARD OF 'emendlaw12.SyntaxNested'. -/
def syntaxNestedCard : Claim7 := { stood := { row := syntaxNestedRow, standIns := [], harness := (true, "480b6226f8b6ad432b6fa4d0622f88aaf59d89b8e9a3b9f85881faac6b3d48a3"), looks := true }, kinds := [], alts := [], laidByText := true, laidKinds := [.data, .pinned], laidTests := true, laidLooks := .later }
def SyntaxNestedCardSaid : Prop := Claim7.holds Tryz.pinned (.plain (OpenSpec.ofChange syntaxNestedSpec)) syntaxNestedCard

/-- THE SECOND FORM's CARD OF 'emendlaw12.SyntaxTypes'. -/
def syntaxTypesUptoCard : Claim7 := { stood := { row := syntaxTypesUptoRow, standIns := [], harness := (true, "480b6226f8b6ad432b6fa4d0622f88aaf59d89b8e9a3b9f85881faac6b3d48a3"), looks := true }, kinds := [], alts := [], laidByText := true, laidKinds := [.data, .pinned], laidTests := true, laidLooks := .later }
def SyntaxTypesUptoCardSaid : Prop := Claim7.holds Tryz.pinned (.plain (OpenSpec.upto syntaxTypesSpec)) syntaxTypesUptoCard

/-- THE SECOND FORM's CARD OF 'emendlaw12.SyntaxExprs'. -/
def syntaxExprsUptoCard : Claim7 := { stood := { row := syntaxExprsUptoRow, standIns := [], harness := (true, "480b6226f8b6ad432b6fa4d0622f88aaf59d89b8e9a3b9f85881faac6b3d48a3"), looks := true }, kinds := [], alts := [], laidByText := true, laidKinds := [.data, .pinned], laidTests := true, laidLooks := .later }
def SyntaxExprsUptoCardSaid : Prop := Claim7.holds Tryz.pinned (.plain (OpenSpec.upto syntaxExprsSpec)) syntaxExprsUptoCard

/-- THE SECOND FORM's CARD OF 'emendlaw12.SyntaxStmts'. -/
def syntaxStmtsUptoCard : Claim7 := { stood := { row := syntaxStmtsUptoRow, standIns := [], harness := (true, "480b6226f8b6ad432b6fa4d0622f88aaf59d89b8e9a3b9f85881faac6b3d48a3"), looks := true }, kinds := [], alts := [], laidByText := true, laidKinds := [.data, .pinned], laidTests := true, laidLooks := .later }
def SyntaxStmtsUptoCardSaid : Prop := Claim7.holds Tryz.pinned (.plain (OpenSpec.upto syntaxStmtsSpec)) syntaxStmtsUptoCard

/-- THE SECOND FORM's CARD OF 'emendlaw12.SyntaxFiles'. -/
def syntaxFilesUptoCard : Claim7 := { stood := { row := syntaxFilesUptoRow, standIns := [], harness := (true, "480b6226f8b6ad432b6fa4d0622f88aaf59d89b8e9a3b9f85881faac6b3d48a3"), looks := true }, kinds := [], alts := [], laidByText := true, laidKinds := [.data, .pinned], laidTests := true, laidLooks := .later }
def SyntaxFilesUptoCardSaid : Prop := Claim7.holds Tryz.pinned (.plain (OpenSpec.upto syntaxFilesSpec)) syntaxFilesUptoCard

/-- THE SECOND FORM's CARD OF 'emendlaw12.SyntaxTerms'. -/
def syntaxTermsUptoCard : Claim7 := { stood := { row := syntaxTermsUptoRow, standIns := [], harness := (true, "480b6226f8b6ad432b6fa4d0622f88aaf59d89b8e9a3b9f85881faac6b3d48a3"), looks := true }, kinds := [], alts := [], laidByText := true, laidKinds := [.data, .pinned], laidTests := true, laidLooks := .later }
def SyntaxTermsUptoCardSaid : Prop := Claim7.holds Tryz.pinned (.plain (OpenSpec.upto syntaxTermsSpec)) syntaxTermsUptoCard

/-- THE SECOND FORM's CARD OF 'emendlaw12.SyntaxNested'. -/
def syntaxNestedUptoCard : Claim7 := { stood := { row := syntaxNestedUptoRow, standIns := [], harness := (true, "480b6226f8b6ad432b6fa4d0622f88aaf59d89b8e9a3b9f85881faac6b3d48a3"), looks := true }, kinds := [], alts := [], laidByText := true, laidKinds := [.data, .pinned], laidTests := true, laidLooks := .later }
def SyntaxNestedUptoCardSaid : Prop := Claim7.holds Tryz.pinned (.plain (OpenSpec.upto syntaxNestedSpec)) syntaxNestedUptoCard
end Rows
end Go.Proofs.YtjdllofmhglmiaaGreatDoor
