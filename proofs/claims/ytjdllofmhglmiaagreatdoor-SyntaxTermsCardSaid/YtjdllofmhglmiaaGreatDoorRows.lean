/-
  NARROWER THAN 'FOR EVERY INPUT', by the rows' own cells (each row's printed sentence says how): SyntaxTypes: laid · SyntaxExprs: laid · SyntaxStmts: laid · SyntaxFiles: laid · SyntaxTerms: laid · SyntaxNested: laid.
  DERIVED. THE GIVEN ROWS OF THIS SEAT. 6 by the template 'for every input the law returns true; each argument reads behind the call as it read before'; 0 by the template 'total and deterministic' (their statements: YtjdllofmhglmiaaGreatDoorTotals.lean).
  GIVEN WITH THE SEED: the statements are not yours to turn. If you find one false, say at which input.
  Laid BY PROGRAM, IN A SANDBOX (cutbox-rows.mjs): the forced cells as the released guide's own fill.sh prints them over the translation 71393840349cb956… (all of the seat's roots in one cut). By AI agents, Wed Nov 11 2026. No macro, syntax, notation, axiom, sorry.
-/
import Derived.Test.YtjdllofmhglmiaaGreatDoorChecked
import GoSem.PinnedTables
import GoSem.Claim
import GoSem.ClaimJoined
import GoSem.ClaimMapViews
import Derived.JoinedTies
import Derived.KernelRfl
namespace Go.Proofs.YtjdllofmhglmiaaGreatDoor
/- THE CELL 'sum', in the pinned program and in every row, IS THE sha256 OF THE DUMP (.gsa) THAT YtjdllofmhglmiaaGreatDoorProg.lean LOADS. Nothing in Lean hashes anything: it is a label: what it is worth is what the hold of that sum in a sandbox is worth. -/
noncomputable def Tryz.pinned : Pinned := { name := "ytjdllofmhglmiaagreatdoor", sum := "71393840349cb95699c587354d1cc47ac182c5ff560e4b9e270ebdb5d17cf83d", checked := Tryz.checked }
namespace Rows
def none {H : Type} : Left H := { results := [], args := [] }

/- WHAT THE LISTED PACKAGE-LEVEL VARIABLES READ AS WHEN THE CALL BEGINS. Each datum BY PROGRAM (the guide's laid-datum.mjs) off the statement by which the dump's own 'gosem.cut.vars' lays the variable. In a bare row this is a premise. The card (YtjdllofmhglmiaaGreatDoorCards.lean) ties it to the program's text. -/
def laid_unicode_utf8_acceptRanges {H : Type} : DataW H := .agg [.agg [.lit (.int .u8 128), .lit (.int .u8 191)], .agg [.lit (.int .u8 160), .lit (.int .u8 191)], .agg [.lit (.int .u8 128), .lit (.int .u8 159)], .agg [.lit (.int .u8 144), .lit (.int .u8 191)], .agg [.lit (.int .u8 128), .lit (.int .u8 143)], .agg [.lit (.int .u8 0), .lit (.int .u8 0)], .agg [.lit (.int .u8 0), .lit (.int .u8 0)], .agg [.lit (.int .u8 0), .lit (.int .u8 0)], .agg [.lit (.int .u8 0), .lit (.int .u8 0)], .agg [.lit (.int .u8 0), .lit (.int .u8 0)], .agg [.lit (.int .u8 0), .lit (.int .u8 0)], .agg [.lit (.int .u8 0), .lit (.int .u8 0)], .agg [.lit (.int .u8 0), .lit (.int .u8 0)], .agg [.lit (.int .u8 0), .lit (.int .u8 0)], .agg [.lit (.int .u8 0), .lit (.int .u8 0)], .agg [.lit (.int .u8 0), .lit (.int .u8 0)]]
/-- One of Go's own tables, pinned by name: the form's constant. -/
def laid_unicode_utf8_first : DataW Unit := Go.Pinned.utf8First

/-- 'emendlaw12.SyntaxTypes': WHATEVER THE INPUT: true; the input reads as it did. -/
def syntaxTypesSpec : ChangeSpec := { name := "syntaxTypes", fn := fun _ => fun
  | [d] => { results := [.lit (.bool true)], args := [d] }
  | _ => none }
def syntaxTypesRow : OpenClaim := { program := "ytjdllofmhglmiaagreatdoor", sum := "71393840349cb95699c587354d1cc47ac182c5ff560e4b9e270ebdb5d17cf83d", func := "emend/emendlaw12.SyntaxTypes", spec := "syntaxTypes", inPlace := ["internal/bytealg.IndexByteString", "internal/bytealg.IndexString", "internal/bytealg.CountString", "internal/abi.NoEscape", "internal/bytealg.MakeNoZero"], unfollowed := true, recurses := true, named := ["unicode/utf8.first", "unicode/utf8.acceptRanges", "internal/bytealg.MaxLen"], apart := false, laid := [("unicode/utf8.acceptRanges", laid_unicode_utf8_acceptRanges), ("unicode/utf8.first", laid_unicode_utf8_first)] }
def SyntaxTypesSaid : Prop := syntaxTypesRow.holds Tryz.pinned (OpenSpec.ofChange syntaxTypesSpec)

/-- ITS FALSE NEIGHBOUR: 'it returns false'. Refute it at one input. -/
def syntaxTypesWrong : ChangeSpec := { name := "syntaxTypes", fn := fun _ => fun
  | [d] => { results := [.lit (.bool false)], args := [d] }
  | _ => none }
def SyntaxTypesWrongFalsely : Prop := syntaxTypesRow.holds Tryz.pinned (OpenSpec.ofChange syntaxTypesWrong)

/-- 'emendlaw12.SyntaxExprs': WHATEVER THE INPUT: true; the input reads as it did. -/
def syntaxExprsSpec : ChangeSpec := { name := "syntaxExprs", fn := fun _ => fun
  | [d] => { results := [.lit (.bool true)], args := [d] }
  | _ => none }
def syntaxExprsRow : OpenClaim := { program := "ytjdllofmhglmiaagreatdoor", sum := "71393840349cb95699c587354d1cc47ac182c5ff560e4b9e270ebdb5d17cf83d", func := "emend/emendlaw12.SyntaxExprs", spec := "syntaxExprs", inPlace := ["internal/bytealg.IndexByteString", "internal/bytealg.IndexString", "internal/bytealg.CountString", "internal/abi.NoEscape", "internal/bytealg.MakeNoZero"], unfollowed := true, recurses := true, named := ["unicode/utf8.first", "unicode/utf8.acceptRanges", "internal/bytealg.MaxLen"], apart := false, laid := [("unicode/utf8.acceptRanges", laid_unicode_utf8_acceptRanges), ("unicode/utf8.first", laid_unicode_utf8_first)] }
def SyntaxExprsSaid : Prop := syntaxExprsRow.holds Tryz.pinned (OpenSpec.ofChange syntaxExprsSpec)

/-- ITS FALSE NEIGHBOUR: 'it returns false'. Refute it at one input. -/
def syntaxExprsWrong : ChangeSpec := { name := "syntaxExprs", fn := fun _ => fun
  | [d] => { results := [.lit (.bool false)], args := [d] }
  | _ => none }
def SyntaxExprsWrongFalsely : Prop := syntaxExprsRow.holds Tryz.pinned (OpenSpec.ofChange syntaxExprsWrong)

/-- 'emendlaw12.SyntaxStmts': WHATEVER THE INPUT: true; the input reads as it did. -/
def syntaxStmtsSpec : ChangeSpec := { name := "syntaxStmts", fn := fun _ => fun
  | [d] => { results := [.lit (.bool true)], args := [d] }
  | _ => none }
def syntaxStmtsRow : OpenClaim := { program := "ytjdllofmhglmiaagreatdoor", sum := "71393840349cb95699c587354d1cc47ac182c5ff560e4b9e270ebdb5d17cf83d", func := "emend/emendlaw12.SyntaxStmts", spec := "syntaxStmts", inPlace := ["internal/bytealg.IndexByteString", "internal/bytealg.IndexString", "internal/bytealg.CountString", "internal/abi.NoEscape", "internal/bytealg.MakeNoZero"], unfollowed := true, recurses := true, named := ["unicode/utf8.first", "unicode/utf8.acceptRanges", "internal/bytealg.MaxLen"], apart := false, laid := [("unicode/utf8.acceptRanges", laid_unicode_utf8_acceptRanges), ("unicode/utf8.first", laid_unicode_utf8_first)] }
def SyntaxStmtsSaid : Prop := syntaxStmtsRow.holds Tryz.pinned (OpenSpec.ofChange syntaxStmtsSpec)

/-- ITS FALSE NEIGHBOUR: 'it returns false'. Refute it at one input. -/
def syntaxStmtsWrong : ChangeSpec := { name := "syntaxStmts", fn := fun _ => fun
  | [d] => { results := [.lit (.bool false)], args := [d] }
  | _ => none }
def SyntaxStmtsWrongFalsely : Prop := syntaxStmtsRow.holds Tryz.pinned (OpenSpec.ofChange syntaxStmtsWrong)

/-- 'emendlaw12.SyntaxFiles': WHATEVER THE INPUT: true; the input reads as it did. -/
def syntaxFilesSpec : ChangeSpec := { name := "syntaxFiles", fn := fun _ => fun
  | [d] => { results := [.lit (.bool true)], args := [d] }
  | _ => none }
def syntaxFilesRow : OpenClaim := { program := "ytjdllofmhglmiaagreatdoor", sum := "71393840349cb95699c587354d1cc47ac182c5ff560e4b9e270ebdb5d17cf83d", func := "emend/emendlaw12.SyntaxFiles", spec := "syntaxFiles", inPlace := ["internal/bytealg.IndexByteString", "internal/bytealg.IndexString", "internal/bytealg.CountString", "internal/abi.NoEscape", "internal/bytealg.MakeNoZero"], unfollowed := true, recurses := true, named := ["unicode/utf8.first", "unicode/utf8.acceptRanges", "internal/bytealg.MaxLen"], apart := false, laid := [("unicode/utf8.acceptRanges", laid_unicode_utf8_acceptRanges), ("unicode/utf8.first", laid_unicode_utf8_first)] }
def SyntaxFilesSaid : Prop := syntaxFilesRow.holds Tryz.pinned (OpenSpec.ofChange syntaxFilesSpec)

/-- ITS FALSE NEIGHBOUR: 'it returns false'. Refute it at one input. -/
def syntaxFilesWrong : ChangeSpec := { name := "syntaxFiles", fn := fun _ => fun
  | [d] => { results := [.lit (.bool false)], args := [d] }
  | _ => none }
def SyntaxFilesWrongFalsely : Prop := syntaxFilesRow.holds Tryz.pinned (OpenSpec.ofChange syntaxFilesWrong)

/-- 'emendlaw12.SyntaxTerms': WHATEVER THE INPUT: true; the input reads as it did. -/
def syntaxTermsSpec : ChangeSpec := { name := "syntaxTerms", fn := fun _ => fun
  | [d1, d2] => { results := [.lit (.bool true)], args := [d1, d2] }
  | _ => none }
def syntaxTermsRow : OpenClaim := { program := "ytjdllofmhglmiaagreatdoor", sum := "71393840349cb95699c587354d1cc47ac182c5ff560e4b9e270ebdb5d17cf83d", func := "emend/emendlaw12.SyntaxTerms", spec := "syntaxTerms", inPlace := ["internal/bytealg.IndexByteString", "internal/bytealg.IndexString", "internal/bytealg.CountString", "internal/abi.NoEscape", "internal/bytealg.MakeNoZero"], unfollowed := true, recurses := true, named := ["unicode/utf8.first", "unicode/utf8.acceptRanges", "internal/bytealg.MaxLen"], apart := false, laid := [("unicode/utf8.acceptRanges", laid_unicode_utf8_acceptRanges), ("unicode/utf8.first", laid_unicode_utf8_first)] }
def SyntaxTermsSaid : Prop := syntaxTermsRow.holds Tryz.pinned (OpenSpec.ofChange syntaxTermsSpec)

/-- ITS FALSE NEIGHBOUR: 'it returns false'. Refute it at one input. -/
def syntaxTermsWrong : ChangeSpec := { name := "syntaxTerms", fn := fun _ => fun
  | [d1, d2] => { results := [.lit (.bool false)], args := [d1, d2] }
  | _ => none }
def SyntaxTermsWrongFalsely : Prop := syntaxTermsRow.holds Tryz.pinned (OpenSpec.ofChange syntaxTermsWrong)

/-- 'emendlaw12.SyntaxNested': WHATEVER THE INPUT: true; the input reads as it did. -/
def syntaxNestedSpec : ChangeSpec := { name := "syntaxNested", fn := fun _ => fun
  | [d1, d2, d3] => { results := [.lit (.bool true)], args := [d1, d2, d3] }
  | _ => none }
def syntaxNestedRow : OpenClaim := { program := "ytjdllofmhglmiaagreatdoor", sum := "71393840349cb95699c587354d1cc47ac182c5ff560e4b9e270ebdb5d17cf83d", func := "emend/emendlaw12.SyntaxNested", spec := "syntaxNested", inPlace := ["internal/bytealg.IndexByteString", "internal/bytealg.IndexString", "internal/bytealg.CountString", "internal/abi.NoEscape", "internal/bytealg.MakeNoZero"], unfollowed := true, recurses := true, named := ["unicode/utf8.first", "unicode/utf8.acceptRanges", "internal/bytealg.MaxLen"], apart := false, laid := [("unicode/utf8.acceptRanges", laid_unicode_utf8_acceptRanges), ("unicode/utf8.first", laid_unicode_utf8_first)] }
def SyntaxNestedSaid : Prop := syntaxNestedRow.holds Tryz.pinned (OpenSpec.ofChange syntaxNestedSpec)

/-- ITS FALSE NEIGHBOUR: 'it returns false'. Refute it at one input. -/
def syntaxNestedWrong : ChangeSpec := { name := "syntaxNested", fn := fun _ => fun
  | [d1, d2, d3] => { results := [.lit (.bool false)], args := [d1, d2, d3] }
  | _ => none }
def SyntaxNestedWrongFalsely : Prop := syntaxNestedRow.holds Tryz.pinned (OpenSpec.ofChange syntaxNestedWrong)

/- THE SECOND FORM. 'bulk': how many values and letters a reading holds, each counted each time it is reached (what is shared counts as often as it is met; a slice's spare places count too). A statement '..UptoSaid' is the law's where the arguments, and the package variables that the reading takes, are together of bulk at most 1048576: NARROWER than '..Said'. Prove '..Said' where nothing that the law and all that it calls make is longer than what came in: it says more and counts as full. Else prove '..UptoSaid'. A law counts once. -/
mutual
def uptoBulk {H : Type} : DataW H → Nat
  | .lit (.string bytes) => bytes.length + 1
  | .lit _ => 1
  | .nil => 1
  | .ptr d => uptoBulk d + 1
  | .slice elems spare => uptoBulkAll elems + uptoBulkAll spare + 1
  | .agg parts => uptoBulkAll parts + 1
  | .iface _ d => uptoBulk d + 1
  | .map entries => uptoBulkEntries entries + 1
  | .held _ => 1
def uptoBulkAll {H : Type} : List (DataW H) → Nat
  | [] => 0
  | d :: r => uptoBulk d + uptoBulkAll r
def uptoBulkEntries {H : Type} : List (Lit × DataW H) → Nat
  | [] => 0
  | x :: r => uptoBulkEntry x + uptoBulkEntries r
def uptoBulkEntry {H : Type} : Lit × DataW H → Nat
  | (.string bytes, d) => bytes.length + uptoBulk d + 1
  | (_, d) => uptoBulk d + 1
 end
def uptoSmall : (H : Type) → List (DataW H) → Bool := fun _ ds => decide (uptoBulkAll ds ≤ 1048576)
def OpenSpec.upto (s : _root_.Go.ChangeSpec) : _root_.Go.OpenSpec := { _root_.Go.OpenSpec.ofChange s with cond := some uptoSmall }

/-- 'emendlaw12.SyntaxTypes', WHERE WHAT IT READS IS OF BULK AT MOST 1048576: true; the input reads as it did. -/
def syntaxTypesUptoRow : OpenClaim := { program := "ytjdllofmhglmiaagreatdoor", sum := "71393840349cb95699c587354d1cc47ac182c5ff560e4b9e270ebdb5d17cf83d", func := "emend/emendlaw12.SyntaxTypes", spec := "syntaxTypes", inPlace := ["internal/bytealg.IndexByteString", "internal/bytealg.IndexString", "internal/bytealg.CountString", "internal/abi.NoEscape", "internal/bytealg.MakeNoZero"], unfollowed := true, recurses := true, named := ["unicode/utf8.first", "unicode/utf8.acceptRanges", "internal/bytealg.MaxLen"], apart := false, laid := [("unicode/utf8.acceptRanges", laid_unicode_utf8_acceptRanges), ("unicode/utf8.first", laid_unicode_utf8_first)], narrowed := true }
def SyntaxTypesUptoSaid : Prop := syntaxTypesUptoRow.holds Tryz.pinned (OpenSpec.upto syntaxTypesSpec)

/-- 'emendlaw12.SyntaxExprs', WHERE WHAT IT READS IS OF BULK AT MOST 1048576: true; the input reads as it did. -/
def syntaxExprsUptoRow : OpenClaim := { program := "ytjdllofmhglmiaagreatdoor", sum := "71393840349cb95699c587354d1cc47ac182c5ff560e4b9e270ebdb5d17cf83d", func := "emend/emendlaw12.SyntaxExprs", spec := "syntaxExprs", inPlace := ["internal/bytealg.IndexByteString", "internal/bytealg.IndexString", "internal/bytealg.CountString", "internal/abi.NoEscape", "internal/bytealg.MakeNoZero"], unfollowed := true, recurses := true, named := ["unicode/utf8.first", "unicode/utf8.acceptRanges", "internal/bytealg.MaxLen"], apart := false, laid := [("unicode/utf8.acceptRanges", laid_unicode_utf8_acceptRanges), ("unicode/utf8.first", laid_unicode_utf8_first)], narrowed := true }
def SyntaxExprsUptoSaid : Prop := syntaxExprsUptoRow.holds Tryz.pinned (OpenSpec.upto syntaxExprsSpec)

/-- 'emendlaw12.SyntaxStmts', WHERE WHAT IT READS IS OF BULK AT MOST 1048576: true; the input reads as it did. -/
def syntaxStmtsUptoRow : OpenClaim := { program := "ytjdllofmhglmiaagreatdoor", sum := "71393840349cb95699c587354d1cc47ac182c5ff560e4b9e270ebdb5d17cf83d", func := "emend/emendlaw12.SyntaxStmts", spec := "syntaxStmts", inPlace := ["internal/bytealg.IndexByteString", "internal/bytealg.IndexString", "internal/bytealg.CountString", "internal/abi.NoEscape", "internal/bytealg.MakeNoZero"], unfollowed := true, recurses := true, named := ["unicode/utf8.first", "unicode/utf8.acceptRanges", "internal/bytealg.MaxLen"], apart := false, laid := [("unicode/utf8.acceptRanges", laid_unicode_utf8_acceptRanges), ("unicode/utf8.first", laid_unicode_utf8_first)], narrowed := true }
def SyntaxStmtsUptoSaid : Prop := syntaxStmtsUptoRow.holds Tryz.pinned (OpenSpec.upto syntaxStmtsSpec)

/-- 'emendlaw12.SyntaxFiles', WHERE WHAT IT READS IS OF BULK AT MOST 1048576: true; the input reads as it did. -/
def syntaxFilesUptoRow : OpenClaim := { program := "ytjdllofmhglmiaagreatdoor", sum := "71393840349cb95699c587354d1cc47ac182c5ff560e4b9e270ebdb5d17cf83d", func := "emend/emendlaw12.SyntaxFiles", spec := "syntaxFiles", inPlace := ["internal/bytealg.IndexByteString", "internal/bytealg.IndexString", "internal/bytealg.CountString", "internal/abi.NoEscape", "internal/bytealg.MakeNoZero"], unfollowed := true, recurses := true, named := ["unicode/utf8.first", "unicode/utf8.acceptRanges", "internal/bytealg.MaxLen"], apart := false, laid := [("unicode/utf8.acceptRanges", laid_unicode_utf8_acceptRanges), ("unicode/utf8.first", laid_unicode_utf8_first)], narrowed := true }
def SyntaxFilesUptoSaid : Prop := syntaxFilesUptoRow.holds Tryz.pinned (OpenSpec.upto syntaxFilesSpec)

/-- 'emendlaw12.SyntaxTerms', WHERE WHAT IT READS IS OF BULK AT MOST 1048576: true; the input reads as it did. -/
def syntaxTermsUptoRow : OpenClaim := { program := "ytjdllofmhglmiaagreatdoor", sum := "71393840349cb95699c587354d1cc47ac182c5ff560e4b9e270ebdb5d17cf83d", func := "emend/emendlaw12.SyntaxTerms", spec := "syntaxTerms", inPlace := ["internal/bytealg.IndexByteString", "internal/bytealg.IndexString", "internal/bytealg.CountString", "internal/abi.NoEscape", "internal/bytealg.MakeNoZero"], unfollowed := true, recurses := true, named := ["unicode/utf8.first", "unicode/utf8.acceptRanges", "internal/bytealg.MaxLen"], apart := false, laid := [("unicode/utf8.acceptRanges", laid_unicode_utf8_acceptRanges), ("unicode/utf8.first", laid_unicode_utf8_first)], narrowed := true }
def SyntaxTermsUptoSaid : Prop := syntaxTermsUptoRow.holds Tryz.pinned (OpenSpec.upto syntaxTermsSpec)

/-- 'emendlaw12.SyntaxNested', WHERE WHAT IT READS IS OF BULK AT MOST 1048576: true; the input reads as it did. -/
def syntaxNestedUptoRow : OpenClaim := { program := "ytjdllofmhglmiaagreatdoor", sum := "71393840349cb95699c587354d1cc47ac182c5ff560e4b9e270ebdb5d17cf83d", func := "emend/emendlaw12.SyntaxNested", spec := "syntaxNested", inPlace := ["internal/bytealg.IndexByteString", "internal/bytealg.IndexString", "internal/bytealg.CountString", "internal/abi.NoEscape", "internal/bytealg.MakeNoZero"], unfollowed := true, recurses := true, named := ["unicode/utf8.first", "unicode/utf8.acceptRanges", "internal/bytealg.MaxLen"], apart := false, laid := [("unicode/utf8.acceptRanges", laid_unicode_utf8_acceptRanges), ("unicode/utf8.first", laid_unicode_utf8_first)], narrowed := true }
def SyntaxNestedUptoSaid : Prop := syntaxNestedUptoRow.holds Tryz.pinned (OpenSpec.upto syntaxNestedSpec)

end Rows
end Go.Proofs.YtjdllofmhglmiaaGreatDoor
