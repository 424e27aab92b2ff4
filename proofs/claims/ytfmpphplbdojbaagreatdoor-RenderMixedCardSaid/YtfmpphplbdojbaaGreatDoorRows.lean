/-
  NARROWER THAN 'FOR EVERY INPUT', by the rows' own cells (each row's printed sentence says how): RenderTexts: laid · RenderMixed: laid · RenderRaw: laid · RenderOwn: laid · GuardFits: laid.
  DERIVED. THE GIVEN ROWS OF THIS SEAT. 5 by the template 'for every input the law returns true; each argument reads behind the call as it read before'; 0 by the template 'total and deterministic' (their statements: YtfmpphplbdojbaaGreatDoorTotals.lean).
  GIVEN WITH THE SEED: the statements are not yours to turn. If you find one false, say at which input.
  Laid BY PROGRAM, IN A SANDBOX (cutbox-rows.mjs): the forced cells as the released guide's own fill.sh prints them over the translation c72810e91a074e63… (all of the seat's roots in one cut). By AI agents, Wed Nov 11 2026. No macro, syntax, notation, axiom, sorry.
-/
import Derived.Test.YtfmpphplbdojbaaGreatDoorChecked
import GoSem.PinnedTables
import GoSem.Claim
import GoSem.ClaimJoined
import GoSem.ClaimMapViews
import Derived.JoinedTies
import Derived.KernelRfl
namespace Go.Proofs.YtfmpphplbdojbaaGreatDoor
/- THE CELL 'sum', in the pinned program and in every row, IS THE sha256 OF THE DUMP (.gsa) THAT YtfmpphplbdojbaaGreatDoorProg.lean LOADS. Nothing in Lean hashes anything: it is a label: what it is worth is what the hold of that sum in a sandbox is worth. -/
noncomputable def Tryz.pinned : Pinned := { name := "ytfmpphplbdojbaagreatdoor", sum := "c72810e91a074e63a36c19c2ccdee90f6009d368403523f2b5219954cb95b6eb", checked := Tryz.checked }
namespace Rows
def none {H : Type} : Left H := { results := [], args := [] }

/- WHAT THE LISTED PACKAGE-LEVEL VARIABLES READ AS WHEN THE CALL BEGINS. Each datum BY PROGRAM (the guide's laid-datum.mjs) off the statement by which the dump's own 'gosem.cut.vars' lays the variable. In a bare row this is a premise. The card (YtfmpphplbdojbaaGreatDoorCards.lean) ties it to the program's text. -/
def laid_unicode_utf8_acceptRanges {H : Type} : DataW H := .agg [.agg [.lit (.int .u8 128), .lit (.int .u8 191)], .agg [.lit (.int .u8 160), .lit (.int .u8 191)], .agg [.lit (.int .u8 128), .lit (.int .u8 159)], .agg [.lit (.int .u8 144), .lit (.int .u8 191)], .agg [.lit (.int .u8 128), .lit (.int .u8 143)], .agg [.lit (.int .u8 0), .lit (.int .u8 0)], .agg [.lit (.int .u8 0), .lit (.int .u8 0)], .agg [.lit (.int .u8 0), .lit (.int .u8 0)], .agg [.lit (.int .u8 0), .lit (.int .u8 0)], .agg [.lit (.int .u8 0), .lit (.int .u8 0)], .agg [.lit (.int .u8 0), .lit (.int .u8 0)], .agg [.lit (.int .u8 0), .lit (.int .u8 0)], .agg [.lit (.int .u8 0), .lit (.int .u8 0)], .agg [.lit (.int .u8 0), .lit (.int .u8 0)], .agg [.lit (.int .u8 0), .lit (.int .u8 0)], .agg [.lit (.int .u8 0), .lit (.int .u8 0)]]
/-- One of Go's own tables, pinned by name: the form's constant. -/
def laid_unicode_utf8_first : DataW Unit := Go.Pinned.utf8First

/-- 'emendlaw14.RenderTexts': WHATEVER THE INPUT: true; the input reads as it did. -/
def renderTextsSpec : ChangeSpec := { name := "renderTexts", fn := fun _ => fun
  | [d] => { results := [.lit (.bool true)], args := [d] }
  | _ => none }
def renderTextsRow : OpenClaim := { program := "ytfmpphplbdojbaagreatdoor", sum := "c72810e91a074e63a36c19c2ccdee90f6009d368403523f2b5219954cb95b6eb", func := "emend/emendlaw14.RenderTexts", spec := "renderTexts", inPlace := ["internal/bytealg.IndexByteString", "internal/bytealg.IndexString", "internal/bytealg.CountString", "internal/abi.NoEscape", "internal/bytealg.MakeNoZero"], unfollowed := true, recurses := true, named := ["unicode/utf8.first", "unicode/utf8.acceptRanges", "internal/bytealg.MaxLen"], apart := false, laid := [("unicode/utf8.acceptRanges", laid_unicode_utf8_acceptRanges), ("unicode/utf8.first", laid_unicode_utf8_first)] }
def RenderTextsSaid : Prop := renderTextsRow.holds Tryz.pinned (OpenSpec.ofChange renderTextsSpec)

/-- ITS FALSE NEIGHBOUR: 'it returns false'. Refute it at one input. -/
def renderTextsWrong : ChangeSpec := { name := "renderTexts", fn := fun _ => fun
  | [d] => { results := [.lit (.bool false)], args := [d] }
  | _ => none }
def RenderTextsWrongFalsely : Prop := renderTextsRow.holds Tryz.pinned (OpenSpec.ofChange renderTextsWrong)

/-- 'emendlaw14.RenderMixed': WHATEVER THE INPUT: true; the input reads as it did. -/
def renderMixedSpec : ChangeSpec := { name := "renderMixed", fn := fun _ => fun
  | [d1, d2] => { results := [.lit (.bool true)], args := [d1, d2] }
  | _ => none }
def renderMixedRow : OpenClaim := { program := "ytfmpphplbdojbaagreatdoor", sum := "c72810e91a074e63a36c19c2ccdee90f6009d368403523f2b5219954cb95b6eb", func := "emend/emendlaw14.RenderMixed", spec := "renderMixed", inPlace := ["internal/bytealg.IndexByteString", "internal/bytealg.IndexString", "internal/bytealg.CountString", "internal/abi.NoEscape", "internal/bytealg.MakeNoZero"], unfollowed := true, recurses := true, named := ["unicode/utf8.first", "unicode/utf8.acceptRanges", "internal/bytealg.MaxLen"], apart := false, laid := [("unicode/utf8.acceptRanges", laid_unicode_utf8_acceptRanges), ("unicode/utf8.first", laid_unicode_utf8_first)] }
def RenderMixedSaid : Prop := renderMixedRow.holds Tryz.pinned (OpenSpec.ofChange renderMixedSpec)

/-- ITS FALSE NEIGHBOUR: 'it returns false'. Refute it at one input. -/
def renderMixedWrong : ChangeSpec := { name := "renderMixed", fn := fun _ => fun
  | [d1, d2] => { results := [.lit (.bool false)], args := [d1, d2] }
  | _ => none }
def RenderMixedWrongFalsely : Prop := renderMixedRow.holds Tryz.pinned (OpenSpec.ofChange renderMixedWrong)

/-- 'emendlaw14.RenderRaw': WHATEVER THE INPUT: true; the input reads as it did. -/
def renderRawSpec : ChangeSpec := { name := "renderRaw", fn := fun _ => fun
  | [d1, d2] => { results := [.lit (.bool true)], args := [d1, d2] }
  | _ => none }
def renderRawRow : OpenClaim := { program := "ytfmpphplbdojbaagreatdoor", sum := "c72810e91a074e63a36c19c2ccdee90f6009d368403523f2b5219954cb95b6eb", func := "emend/emendlaw14.RenderRaw", spec := "renderRaw", inPlace := ["internal/bytealg.IndexByteString", "internal/bytealg.CountString", "internal/bytealg.IndexString", "internal/abi.NoEscape", "internal/bytealg.MakeNoZero"], unfollowed := true, recurses := true, named := ["unicode/utf8.first", "unicode/utf8.acceptRanges", "internal/bytealg.MaxLen"], apart := false, laid := [("unicode/utf8.acceptRanges", laid_unicode_utf8_acceptRanges), ("unicode/utf8.first", laid_unicode_utf8_first)] }
def RenderRawSaid : Prop := renderRawRow.holds Tryz.pinned (OpenSpec.ofChange renderRawSpec)

/-- ITS FALSE NEIGHBOUR: 'it returns false'. Refute it at one input. -/
def renderRawWrong : ChangeSpec := { name := "renderRaw", fn := fun _ => fun
  | [d1, d2] => { results := [.lit (.bool false)], args := [d1, d2] }
  | _ => none }
def RenderRawWrongFalsely : Prop := renderRawRow.holds Tryz.pinned (OpenSpec.ofChange renderRawWrong)

/-- 'emendlaw14.RenderOwn': WHATEVER THE INPUT: true; the input reads as it did. -/
def renderOwnSpec : ChangeSpec := { name := "renderOwn", fn := fun _ => fun
  | [d1, d2, d3] => { results := [.lit (.bool true)], args := [d1, d2, d3] }
  | _ => none }
def renderOwnRow : OpenClaim := { program := "ytfmpphplbdojbaagreatdoor", sum := "c72810e91a074e63a36c19c2ccdee90f6009d368403523f2b5219954cb95b6eb", func := "emend/emendlaw14.RenderOwn", spec := "renderOwn", inPlace := ["internal/bytealg.IndexByteString", "internal/bytealg.IndexString", "internal/bytealg.CountString", "internal/abi.NoEscape", "internal/bytealg.MakeNoZero"], unfollowed := true, recurses := true, named := ["unicode/utf8.first", "unicode/utf8.acceptRanges", "internal/bytealg.MaxLen"], apart := false, laid := [("unicode/utf8.acceptRanges", laid_unicode_utf8_acceptRanges), ("unicode/utf8.first", laid_unicode_utf8_first)] }
def RenderOwnSaid : Prop := renderOwnRow.holds Tryz.pinned (OpenSpec.ofChange renderOwnSpec)

/-- ITS FALSE NEIGHBOUR: 'it returns false'. Refute it at one input. -/
def renderOwnWrong : ChangeSpec := { name := "renderOwn", fn := fun _ => fun
  | [d1, d2, d3] => { results := [.lit (.bool false)], args := [d1, d2, d3] }
  | _ => none }
def RenderOwnWrongFalsely : Prop := renderOwnRow.holds Tryz.pinned (OpenSpec.ofChange renderOwnWrong)

/-- 'emendlaw15.GuardFits': WHATEVER THE INPUT: true; the input reads as it did. -/
def guardFitsSpec : ChangeSpec := { name := "guardFits", fn := fun _ => fun
  | [d] => { results := [.lit (.bool true)], args := [d] }
  | _ => none }
def guardFitsRow : OpenClaim := { program := "ytfmpphplbdojbaagreatdoor", sum := "c72810e91a074e63a36c19c2ccdee90f6009d368403523f2b5219954cb95b6eb", func := "emend/emendlaw15.GuardFits", spec := "guardFits", inPlace := ["internal/bytealg.IndexByteString", "internal/bytealg.IndexString", "internal/bytealg.CountString", "internal/abi.NoEscape", "internal/bytealg.MakeNoZero"], unfollowed := true, recurses := true, named := ["internal/bytealg.MaxLen", "unicode/utf8.first", "unicode/utf8.acceptRanges"], apart := false, laid := [("unicode/utf8.acceptRanges", laid_unicode_utf8_acceptRanges), ("unicode/utf8.first", laid_unicode_utf8_first)] }
def GuardFitsSaid : Prop := guardFitsRow.holds Tryz.pinned (OpenSpec.ofChange guardFitsSpec)

/-- ITS FALSE NEIGHBOUR: 'it returns false'. Refute it at one input. -/
def guardFitsWrong : ChangeSpec := { name := "guardFits", fn := fun _ => fun
  | [d] => { results := [.lit (.bool false)], args := [d] }
  | _ => none }
def GuardFitsWrongFalsely : Prop := guardFitsRow.holds Tryz.pinned (OpenSpec.ofChange guardFitsWrong)

/- THE SECOND FORM. 'bulk': how many values and letters a reading holds, each counted each time it is reached (what is shared counts as often as it is met; a slice's spare places count too). A statement '..UptoSaid' is the law's where the arguments, and the package variables that the reading takes, are together of bulk at most 1048576: NARROWER than '..Said'. Prove '..Said' where nothing that the law and all that it calls make is longer than what came in: it says more and counts as full. Else prove '..UptoSaid'. A law counts once. -/
mutual
def uptoBulk {H : Type} : DataW H → Nat
  | .lit (.string bytes) => bytes.length + 1
  | .lit _ => 1
  | .nil => 1
  | .ptr d => uptoBulk d + 1
  | .slice elems spare => uptoBulkAll elems + uptoBulkAll spare + 1
  | .agg parts => uptoBulkAll parts + 1
  | .iface _ d => uptoBulk d + 1
  | .map entries => uptoBulkEntries entries + 1
  | .held _ => 1
def uptoBulkAll {H : Type} : List (DataW H) → Nat
  | [] => 0
  | d :: r => uptoBulk d + uptoBulkAll r
def uptoBulkEntries {H : Type} : List (Lit × DataW H) → Nat
  | [] => 0
  | x :: r => uptoBulkEntry x + uptoBulkEntries r
def uptoBulkEntry {H : Type} : Lit × DataW H → Nat
  | (.string bytes, d) => bytes.length + uptoBulk d + 1
  | (_, d) => uptoBulk d + 1
 end
def uptoSmall : (H : Type) → List (DataW H) → Bool := fun _ ds => decide (uptoBulkAll ds ≤ 1048576)
def OpenSpec.upto (s : _root_.Go.ChangeSpec) : _root_.Go.OpenSpec := { _root_.Go.OpenSpec.ofChange s with cond := some uptoSmall }

/-- 'emendlaw14.RenderTexts', WHERE WHAT IT READS IS OF BULK AT MOST 1048576: true; the input reads as it did. -/
def renderTextsUptoRow : OpenClaim := { program := "ytfmpphplbdojbaagreatdoor", sum := "c72810e91a074e63a36c19c2ccdee90f6009d368403523f2b5219954cb95b6eb", func := "emend/emendlaw14.RenderTexts", spec := "renderTexts", inPlace := ["internal/bytealg.IndexByteString", "internal/bytealg.IndexString", "internal/bytealg.CountString", "internal/abi.NoEscape", "internal/bytealg.MakeNoZero"], unfollowed := true, recurses := true, named := ["unicode/utf8.first", "unicode/utf8.acceptRanges", "internal/bytealg.MaxLen"], apart := false, laid := [("unicode/utf8.acceptRanges", laid_unicode_utf8_acceptRanges), ("unicode/utf8.first", laid_unicode_utf8_first)], narrowed := true }
def RenderTextsUptoSaid : Prop := renderTextsUptoRow.holds Tryz.pinned (OpenSpec.upto renderTextsSpec)

/-- 'emendlaw14.RenderMixed', WHERE WHAT IT READS IS OF BULK AT MOST 1048576: true; the input reads as it did. -/
def renderMixedUptoRow : OpenClaim := { program := "ytfmpphplbdojbaagreatdoor", sum := "c72810e91a074e63a36c19c2ccdee90f6009d368403523f2b5219954cb95b6eb", func := "emend/emendlaw14.RenderMixed", spec := "renderMixed", inPlace := ["internal/bytealg.IndexByteString", "internal/bytealg.IndexString", "internal/bytealg.CountString", "internal/abi.NoEscape", "internal/bytealg.MakeNoZero"], unfollowed := true, recurses := true, named := ["unicode/utf8.first", "unicode/utf8.acceptRanges", "internal/bytealg.MaxLen"], apart := false, laid := [("unicode/utf8.acceptRanges", laid_unicode_utf8_acceptRanges), ("unicode/utf8.first", laid_unicode_utf8_first)], narrowed := true }
def RenderMixedUptoSaid : Prop := renderMixedUptoRow.holds Tryz.pinned (OpenSpec.upto renderMixedSpec)

/-- 'emendlaw14.RenderRaw', WHERE WHAT IT READS IS OF BULK AT MOST 1048576: true; the input reads as it did. -/
def renderRawUptoRow : OpenClaim := { program := "ytfmpphplbdojbaagreatdoor", sum := "c72810e91a074e63a36c19c2ccdee90f6009d368403523f2b5219954cb95b6eb", func := "emend/emendlaw14.RenderRaw", spec := "renderRaw", inPlace := ["internal/bytealg.IndexByteString", "internal/bytealg.CountString", "internal/bytealg.IndexString", "internal/abi.NoEscape", "internal/bytealg.MakeNoZero"], unfollowed := true, recurses := true, named := ["unicode/utf8.first", "unicode/utf8.acceptRanges", "internal/bytealg.MaxLen"], apart := false, laid := [("unicode/utf8.acceptRanges", laid_unicode_utf8_acceptRanges), ("unicode/utf8.first", laid_unicode_utf8_first)], narrowed := true }
def RenderRawUptoSaid : Prop := renderRawUptoRow.holds Tryz.pinned (OpenSpec.upto renderRawSpec)

/-- 'emendlaw14.RenderOwn', WHERE WHAT IT READS IS OF BULK AT MOST 1048576: true; the input reads as it did. -/
def renderOwnUptoRow : OpenClaim := { program := "ytfmpphplbdojbaagreatdoor", sum := "c72810e91a074e63a36c19c2ccdee90f6009d368403523f2b5219954cb95b6eb", func := "emend/emendlaw14.RenderOwn", spec := "renderOwn", inPlace := ["internal/bytealg.IndexByteString", "internal/bytealg.IndexString", "internal/bytealg.CountString", "internal/abi.NoEscape", "internal/bytealg.MakeNoZero"], unfollowed := true, recurses := true, named := ["unicode/utf8.first", "unicode/utf8.acceptRanges", "internal/bytealg.MaxLen"], apart := false, laid := [("unicode/utf8.acceptRanges", laid_unicode_utf8_acceptRanges), ("unicode/utf8.first", laid_unicode_utf8_first)], narrowed := true }
def RenderOwnUptoSaid : Prop := renderOwnUptoRow.holds Tryz.pinned (OpenSpec.upto renderOwnSpec)

/-- 'emendlaw15.GuardFits', WHERE WHAT IT READS IS OF BULK AT MOST 1048576: true; the input reads as it did. -/
def guardFitsUptoRow : OpenClaim := { program := "ytfmpphplbdojbaagreatdoor", sum := "c72810e91a074e63a36c19c2ccdee90f6009d368403523f2b5219954cb95b6eb", func := "emend/emendlaw15.GuardFits", spec := "guardFits", inPlace := ["internal/bytealg.IndexByteString", "internal/bytealg.IndexString", "internal/bytealg.CountString", "internal/abi.NoEscape", "internal/bytealg.MakeNoZero"], unfollowed := true, recurses := true, named := ["internal/bytealg.MaxLen", "unicode/utf8.first", "unicode/utf8.acceptRanges"], apart := false, laid := [("unicode/utf8.acceptRanges", laid_unicode_utf8_acceptRanges), ("unicode/utf8.first", laid_unicode_utf8_first)], narrowed := true }
def GuardFitsUptoSaid : Prop := guardFitsUptoRow.holds Tryz.pinned (OpenSpec.upto guardFitsSpec)

end Rows
end Go.Proofs.YtfmpphplbdojbaaGreatDoor
