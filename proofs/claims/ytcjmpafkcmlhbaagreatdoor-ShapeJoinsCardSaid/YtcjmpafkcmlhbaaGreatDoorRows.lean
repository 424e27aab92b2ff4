/-
  NARROWER THAN 'FOR EVERY INPUT', by the rows' own cells (each row's printed sentence says how): GuardReads: laid · ShapeFlaws: laid · ShapeJoins: laid · ShapeOrder: laid · ShapeFresh: laid · ShapeWithin: laid.
  DERIVED. THE GIVEN ROWS OF THIS SEAT. 6 by the template 'for every input the law returns true; each argument reads behind the call as it read before'; 0 by the template 'total and deterministic' (their statements: YtcjmpafkcmlhbaaGreatDoorTotals.lean).
  GIVEN WITH THE SEED: the statements are not yours to turn. If you find one false, say at which input.
  Laid BY PROGRAM, IN A SANDBOX (cutbox-rows.mjs): the forced cells as the released guide's own fill.sh prints them over the translation 7df6fe78d36d545f… (all of the seat's roots in one cut). By AI agents, Wed Nov 11 2026. No macro, syntax, notation, axiom, sorry.
-/
import Derived.Test.YtcjmpafkcmlhbaaGreatDoorChecked
import GoSem.PinnedTables
import GoSem.Claim
import GoSem.ClaimJoined
import GoSem.ClaimMapViews
import Derived.JoinedTies
import Derived.KernelRfl
namespace Go.Proofs.YtcjmpafkcmlhbaaGreatDoor
/- THE CELL 'sum', in the pinned program and in every row, IS THE sha256 OF THE DUMP (.gsa) THAT YtcjmpafkcmlhbaaGreatDoorProg.lean LOADS. Nothing in Lean hashes anything: it is a label: what it is worth is what the hold of that sum in a sandbox is worth. -/
noncomputable def Tryz.pinned : Pinned := { name := "ytcjmpafkcmlhbaagreatdoor", sum := "7df6fe78d36d545ffc88bf9c637b1820f925026628c8faa245e15ad9bae627d6", checked := Tryz.checked }
namespace Rows
def none {H : Type} : Left H := { results := [], args := [] }

/- WHAT THE LISTED PACKAGE-LEVEL VARIABLES READ AS WHEN THE CALL BEGINS. Each datum BY PROGRAM (the guide's laid-datum.mjs) off the statement by which the dump's own 'gosem.cut.vars' lays the variable. In a bare row this is a premise. The card (YtcjmpafkcmlhbaaGreatDoorCards.lean) ties it to the program's text. -/
def laid_unicode_utf8_acceptRanges {H : Type} : DataW H := .agg [.agg [.lit (.int .u8 128), .lit (.int .u8 191)], .agg [.lit (.int .u8 160), .lit (.int .u8 191)], .agg [.lit (.int .u8 128), .lit (.int .u8 159)], .agg [.lit (.int .u8 144), .lit (.int .u8 191)], .agg [.lit (.int .u8 128), .lit (.int .u8 143)], .agg [.lit (.int .u8 0), .lit (.int .u8 0)], .agg [.lit (.int .u8 0), .lit (.int .u8 0)], .agg [.lit (.int .u8 0), .lit (.int .u8 0)], .agg [.lit (.int .u8 0), .lit (.int .u8 0)], .agg [.lit (.int .u8 0), .lit (.int .u8 0)], .agg [.lit (.int .u8 0), .lit (.int .u8 0)], .agg [.lit (.int .u8 0), .lit (.int .u8 0)], .agg [.lit (.int .u8 0), .lit (.int .u8 0)], .agg [.lit (.int .u8 0), .lit (.int .u8 0)], .agg [.lit (.int .u8 0), .lit (.int .u8 0)], .agg [.lit (.int .u8 0), .lit (.int .u8 0)]]
/-- One of Go's own tables, pinned by name: the form's constant. -/
def laid_unicode_utf8_first : DataW Unit := Go.Pinned.utf8First

/-- 'emendlaw15.GuardReads': WHATEVER THE INPUT: true; the input reads as it did. -/
def guardReadsSpec : ChangeSpec := { name := "guardReads", fn := fun _ => fun
  | [d1, d2] => { results := [.lit (.bool true)], args := [d1, d2] }
  | _ => none }
def guardReadsRow : OpenClaim := { program := "ytcjmpafkcmlhbaagreatdoor", sum := "7df6fe78d36d545ffc88bf9c637b1820f925026628c8faa245e15ad9bae627d6", func := "emend/emendlaw15.GuardReads", spec := "guardReads", inPlace := ["internal/bytealg.IndexByteString", "internal/bytealg.IndexString", "internal/bytealg.CountString", "internal/abi.NoEscape", "internal/bytealg.MakeNoZero"], unfollowed := true, recurses := true, named := ["unicode/utf8.first", "unicode/utf8.acceptRanges", "internal/bytealg.MaxLen"], apart := false, laid := [("unicode/utf8.acceptRanges", laid_unicode_utf8_acceptRanges), ("unicode/utf8.first", laid_unicode_utf8_first)] }
def GuardReadsSaid : Prop := guardReadsRow.holds Tryz.pinned (OpenSpec.ofChange guardReadsSpec)

/-- ITS FALSE NEIGHBOUR: 'it returns false'. Refute it at one input. -/
def guardReadsWrong : ChangeSpec := { name := "guardReads", fn := fun _ => fun
  | [d1, d2] => { results := [.lit (.bool false)], args := [d1, d2] }
  | _ => none }
def GuardReadsWrongFalsely : Prop := guardReadsRow.holds Tryz.pinned (OpenSpec.ofChange guardReadsWrong)

/-- 'emendlaw13.ShapeFlaws': WHATEVER THE INPUT: true; the input reads as it did. -/
def shapeFlawsSpec : ChangeSpec := { name := "shapeFlaws", fn := fun _ => fun
  | [d] => { results := [.lit (.bool true)], args := [d] }
  | _ => none }
def shapeFlawsRow : OpenClaim := { program := "ytcjmpafkcmlhbaagreatdoor", sum := "7df6fe78d36d545ffc88bf9c637b1820f925026628c8faa245e15ad9bae627d6", func := "emend/emendlaw13.ShapeFlaws", spec := "shapeFlaws", inPlace := ["internal/bytealg.IndexByteString", "internal/bytealg.IndexString", "internal/bytealg.CountString", "internal/abi.NoEscape", "internal/bytealg.MakeNoZero"], unfollowed := true, recurses := true, named := ["unicode/utf8.first", "unicode/utf8.acceptRanges", "internal/bytealg.MaxLen"], apart := false, laid := [("unicode/utf8.acceptRanges", laid_unicode_utf8_acceptRanges), ("unicode/utf8.first", laid_unicode_utf8_first)] }
def ShapeFlawsSaid : Prop := shapeFlawsRow.holds Tryz.pinned (OpenSpec.ofChange shapeFlawsSpec)

/-- ITS FALSE NEIGHBOUR: 'it returns false'. Refute it at one input. -/
def shapeFlawsWrong : ChangeSpec := { name := "shapeFlaws", fn := fun _ => fun
  | [d] => { results := [.lit (.bool false)], args := [d] }
  | _ => none }
def ShapeFlawsWrongFalsely : Prop := shapeFlawsRow.holds Tryz.pinned (OpenSpec.ofChange shapeFlawsWrong)

/-- 'emendlaw13.ShapeJoins': WHATEVER THE INPUT: true; the input reads as it did. -/
def shapeJoinsSpec : ChangeSpec := { name := "shapeJoins", fn := fun _ => fun
  | [d1, d2] => { results := [.lit (.bool true)], args := [d1, d2] }
  | _ => none }
def shapeJoinsRow : OpenClaim := { program := "ytcjmpafkcmlhbaagreatdoor", sum := "7df6fe78d36d545ffc88bf9c637b1820f925026628c8faa245e15ad9bae627d6", func := "emend/emendlaw13.ShapeJoins", spec := "shapeJoins", inPlace := ["internal/bytealg.IndexByteString", "internal/bytealg.IndexString", "internal/bytealg.CountString", "internal/abi.NoEscape", "internal/bytealg.MakeNoZero"], unfollowed := true, recurses := true, named := ["unicode/utf8.first", "unicode/utf8.acceptRanges", "internal/bytealg.MaxLen"], apart := false, laid := [("unicode/utf8.acceptRanges", laid_unicode_utf8_acceptRanges), ("unicode/utf8.first", laid_unicode_utf8_first)] }
def ShapeJoinsSaid : Prop := shapeJoinsRow.holds Tryz.pinned (OpenSpec.ofChange shapeJoinsSpec)

/-- ITS FALSE NEIGHBOUR: 'it returns false'. Refute it at one input. -/
def shapeJoinsWrong : ChangeSpec := { name := "shapeJoins", fn := fun _ => fun
  | [d1, d2] => { results := [.lit (.bool false)], args := [d1, d2] }
  | _ => none }
def ShapeJoinsWrongFalsely : Prop := shapeJoinsRow.holds Tryz.pinned (OpenSpec.ofChange shapeJoinsWrong)

/-- 'emendlaw13.ShapeOrder': WHATEVER THE INPUT: true; the input reads as it did. -/
def shapeOrderSpec : ChangeSpec := { name := "shapeOrder", fn := fun _ => fun
  | [d] => { results := [.lit (.bool true)], args := [d] }
  | _ => none }
def shapeOrderRow : OpenClaim := { program := "ytcjmpafkcmlhbaagreatdoor", sum := "7df6fe78d36d545ffc88bf9c637b1820f925026628c8faa245e15ad9bae627d6", func := "emend/emendlaw13.ShapeOrder", spec := "shapeOrder", inPlace := ["internal/bytealg.IndexByteString", "internal/bytealg.CountString", "internal/bytealg.IndexString", "internal/abi.NoEscape", "internal/bytealg.MakeNoZero"], unfollowed := true, recurses := true, named := ["unicode/utf8.first", "unicode/utf8.acceptRanges", "internal/bytealg.MaxLen"], apart := false, laid := [("unicode/utf8.acceptRanges", laid_unicode_utf8_acceptRanges), ("unicode/utf8.first", laid_unicode_utf8_first)] }
def ShapeOrderSaid : Prop := shapeOrderRow.holds Tryz.pinned (OpenSpec.ofChange shapeOrderSpec)

/-- ITS FALSE NEIGHBOUR: 'it returns false'. Refute it at one input. -/
def shapeOrderWrong : ChangeSpec := { name := "shapeOrder", fn := fun _ => fun
  | [d] => { results := [.lit (.bool false)], args := [d] }
  | _ => none }
def ShapeOrderWrongFalsely : Prop := shapeOrderRow.holds Tryz.pinned (OpenSpec.ofChange shapeOrderWrong)

/-- 'emendlaw13.ShapeFresh': WHATEVER THE INPUT: true; the input reads as it did. -/
def shapeFreshSpec : ChangeSpec := { name := "shapeFresh", fn := fun _ => fun
  | [d] => { results := [.lit (.bool true)], args := [d] }
  | _ => none }
def shapeFreshRow : OpenClaim := { program := "ytcjmpafkcmlhbaagreatdoor", sum := "7df6fe78d36d545ffc88bf9c637b1820f925026628c8faa245e15ad9bae627d6", func := "emend/emendlaw13.ShapeFresh", spec := "shapeFresh", inPlace := ["internal/bytealg.IndexByteString", "internal/bytealg.IndexString", "internal/bytealg.CountString", "internal/abi.NoEscape", "internal/bytealg.MakeNoZero"], unfollowed := true, recurses := true, named := ["unicode/utf8.first", "unicode/utf8.acceptRanges", "internal/bytealg.MaxLen"], apart := false, laid := [("unicode/utf8.acceptRanges", laid_unicode_utf8_acceptRanges), ("unicode/utf8.first", laid_unicode_utf8_first)] }
def ShapeFreshSaid : Prop := shapeFreshRow.holds Tryz.pinned (OpenSpec.ofChange shapeFreshSpec)

/-- ITS FALSE NEIGHBOUR: 'it returns false'. Refute it at one input. -/
def shapeFreshWrong : ChangeSpec := { name := "shapeFresh", fn := fun _ => fun
  | [d] => { results := [.lit (.bool false)], args := [d] }
  | _ => none }
def ShapeFreshWrongFalsely : Prop := shapeFreshRow.holds Tryz.pinned (OpenSpec.ofChange shapeFreshWrong)

/-- 'emendlaw13.ShapeWithin': WHATEVER THE INPUT: true; the input reads as it did. -/
def shapeWithinSpec : ChangeSpec := { name := "shapeWithin", fn := fun _ => fun
  | [d1, d2] => { results := [.lit (.bool true)], args := [d1, d2] }
  | _ => none }
def shapeWithinRow : OpenClaim := { program := "ytcjmpafkcmlhbaagreatdoor", sum := "7df6fe78d36d545ffc88bf9c637b1820f925026628c8faa245e15ad9bae627d6", func := "emend/emendlaw13.ShapeWithin", spec := "shapeWithin", inPlace := ["internal/bytealg.IndexByteString", "internal/bytealg.CountString", "internal/bytealg.IndexString", "internal/abi.NoEscape", "internal/bytealg.MakeNoZero"], unfollowed := true, recurses := true, named := ["unicode/utf8.first", "unicode/utf8.acceptRanges", "internal/bytealg.MaxLen"], apart := false, laid := [("unicode/utf8.acceptRanges", laid_unicode_utf8_acceptRanges), ("unicode/utf8.first", laid_unicode_utf8_first)] }
def ShapeWithinSaid : Prop := shapeWithinRow.holds Tryz.pinned (OpenSpec.ofChange shapeWithinSpec)

/-- ITS FALSE NEIGHBOUR: 'it returns false'. Refute it at one input. -/
def shapeWithinWrong : ChangeSpec := { name := "shapeWithin", fn := fun _ => fun
  | [d1, d2] => { results := [.lit (.bool false)], args := [d1, d2] }
  | _ => none }
def ShapeWithinWrongFalsely : Prop := shapeWithinRow.holds Tryz.pinned (OpenSpec.ofChange shapeWithinWrong)

/- THE SECOND FORM. 'bulk': how many values and letters a reading holds, each counted each time it is reached (what is shared counts as often as it is met; a slice's spare places count too). A statement '..UptoSaid' is the law's where the arguments, and the package variables that the reading takes, are together of bulk at most 1048576: NARROWER than '..Said'. Prove '..Said' where nothing that the law and all that it calls make is longer than what came in: it says more and counts as full. Else prove '..UptoSaid'. A law counts once. -/
mutual
def uptoBulk {H : Type} : DataW H → Nat
  | .lit (.string bytes) => bytes.length + 1
  | .lit _ => 1
  | .nil => 1
  | .ptr d => uptoBulk d + 1
  | .slice elems spare => uptoBulkAll elems + uptoBulkAll spare + 1
  | .agg parts => uptoBulkAll parts + 1
  | .iface _ d => uptoBulk d + 1
  | .map entries => uptoBulkEntries entries + 1
  | .held _ => 1
def uptoBulkAll {H : Type} : List (DataW H) → Nat
  | [] => 0
  | d :: r => uptoBulk d + uptoBulkAll r
def uptoBulkEntries {H : Type} : List (Lit × DataW H) → Nat
  | [] => 0
  | x :: r => uptoBulkEntry x + uptoBulkEntries r
def uptoBulkEntry {H : Type} : Lit × DataW H → Nat
  | (.string bytes, d) => bytes.length + uptoBulk d + 1
  | (_, d) => uptoBulk d + 1
 end
def uptoSmall : (H : Type) → List (DataW H) → Bool := fun _ ds => decide (uptoBulkAll ds ≤ 1048576)
def OpenSpec.upto (s : _root_.Go.ChangeSpec) : _root_.Go.OpenSpec := { _root_.Go.OpenSpec.ofChange s with cond := some uptoSmall }

/-- 'emendlaw15.GuardReads', WHERE WHAT IT READS IS OF BULK AT MOST 1048576: true; the input reads as it did. -/
def guardReadsUptoRow : OpenClaim := { program := "ytcjmpafkcmlhbaagreatdoor", sum := "7df6fe78d36d545ffc88bf9c637b1820f925026628c8faa245e15ad9bae627d6", func := "emend/emendlaw15.GuardReads", spec := "guardReads", inPlace := ["internal/bytealg.IndexByteString", "internal/bytealg.IndexString", "internal/bytealg.CountString", "internal/abi.NoEscape", "internal/bytealg.MakeNoZero"], unfollowed := true, recurses := true, named := ["unicode/utf8.first", "unicode/utf8.acceptRanges", "internal/bytealg.MaxLen"], apart := false, laid := [("unicode/utf8.acceptRanges", laid_unicode_utf8_acceptRanges), ("unicode/utf8.first", laid_unicode_utf8_first)], narrowed := true }
def GuardReadsUptoSaid : Prop := guardReadsUptoRow.holds Tryz.pinned (OpenSpec.upto guardReadsSpec)

/-- 'emendlaw13.ShapeFlaws', WHERE WHAT IT READS IS OF BULK AT MOST 1048576: true; the input reads as it did. -/
def shapeFlawsUptoRow : OpenClaim := { program := "ytcjmpafkcmlhbaagreatdoor", sum := "7df6fe78d36d545ffc88bf9c637b1820f925026628c8faa245e15ad9bae627d6", func := "emend/emendlaw13.ShapeFlaws", spec := "shapeFlaws", inPlace := ["internal/bytealg.IndexByteString", "internal/bytealg.IndexString", "internal/bytealg.CountString", "internal/abi.NoEscape", "internal/bytealg.MakeNoZero"], unfollowed := true, recurses := true, named := ["unicode/utf8.first", "unicode/utf8.acceptRanges", "internal/bytealg.MaxLen"], apart := false, laid := [("unicode/utf8.acceptRanges", laid_unicode_utf8_acceptRanges), ("unicode/utf8.first", laid_unicode_utf8_first)], narrowed := true }
def ShapeFlawsUptoSaid : Prop := shapeFlawsUptoRow.holds Tryz.pinned (OpenSpec.upto shapeFlawsSpec)

/-- 'emendlaw13.ShapeJoins', WHERE WHAT IT READS IS OF BULK AT MOST 1048576: true; the input reads as it did. -/
def shapeJoinsUptoRow : OpenClaim := { program := "ytcjmpafkcmlhbaagreatdoor", sum := "7df6fe78d36d545ffc88bf9c637b1820f925026628c8faa245e15ad9bae627d6", func := "emend/emendlaw13.ShapeJoins", spec := "shapeJoins", inPlace := ["internal/bytealg.IndexByteString", "internal/bytealg.IndexString", "internal/bytealg.CountString", "internal/abi.NoEscape", "internal/bytealg.MakeNoZero"], unfollowed := true, recurses := true, named := ["unicode/utf8.first", "unicode/utf8.acceptRanges", "internal/bytealg.MaxLen"], apart := false, laid := [("unicode/utf8.acceptRanges", laid_unicode_utf8_acceptRanges), ("unicode/utf8.first", laid_unicode_utf8_first)], narrowed := true }
def ShapeJoinsUptoSaid : Prop := shapeJoinsUptoRow.holds Tryz.pinned (OpenSpec.upto shapeJoinsSpec)

/-- 'emendlaw13.ShapeOrder', WHERE WHAT IT READS IS OF BULK AT MOST 1048576: true; the input reads as it did. -/
def shapeOrderUptoRow : OpenClaim := { program := "ytcjmpafkcmlhbaagreatdoor", sum := "7df6fe78d36d545ffc88bf9c637b1820f925026628c8faa245e15ad9bae627d6", func := "emend/emendlaw13.ShapeOrder", spec := "shapeOrder", inPlace := ["internal/bytealg.IndexByteString", "internal/bytealg.CountString", "internal/bytealg.IndexString", "internal/abi.NoEscape", "internal/bytealg.MakeNoZero"], unfollowed := true, recurses := true, named := ["unicode/utf8.first", "unicode/utf8.acceptRanges", "internal/bytealg.MaxLen"], apart := false, laid := [("unicode/utf8.acceptRanges", laid_unicode_utf8_acceptRanges), ("unicode/utf8.first", laid_unicode_utf8_first)], narrowed := true }
def ShapeOrderUptoSaid : Prop := shapeOrderUptoRow.holds Tryz.pinned (OpenSpec.upto shapeOrderSpec)

/-- 'emendlaw13.ShapeFresh', WHERE WHAT IT READS IS OF BULK AT MOST 1048576: true; the input reads as it did. -/
def shapeFreshUptoRow : OpenClaim := { program := "ytcjmpafkcmlhbaagreatdoor", sum := "7df6fe78d36d545ffc88bf9c637b1820f925026628c8faa245e15ad9bae627d6", func := "emend/emendlaw13.ShapeFresh", spec := "shapeFresh", inPlace := ["internal/bytealg.IndexByteString", "internal/bytealg.IndexString", "internal/bytealg.CountString", "internal/abi.NoEscape", "internal/bytealg.MakeNoZero"], unfollowed := true, recurses := true, named := ["unicode/utf8.first", "unicode/utf8.acceptRanges", "internal/bytealg.MaxLen"], apart := false, laid := [("unicode/utf8.acceptRanges", laid_unicode_utf8_acceptRanges), ("unicode/utf8.first", laid_unicode_utf8_first)], narrowed := true }
def ShapeFreshUptoSaid : Prop := shapeFreshUptoRow.holds Tryz.pinned (OpenSpec.upto shapeFreshSpec)

/-- 'emendlaw13.ShapeWithin', WHERE WHAT IT READS IS OF BULK AT MOST 1048576: true; the input reads as it did. -/
def shapeWithinUptoRow : OpenClaim := { program := "ytcjmpafkcmlhbaagreatdoor", sum := "7df6fe78d36d545ffc88bf9c637b1820f925026628c8faa245e15ad9bae627d6", func := "emend/emendlaw13.ShapeWithin", spec := "shapeWithin", inPlace := ["internal/bytealg.IndexByteString", "internal/bytealg.CountString", "internal/bytealg.IndexString", "internal/abi.NoEscape", "internal/bytealg.MakeNoZero"], unfollowed := true, recurses := true, named := ["unicode/utf8.first", "unicode/utf8.acceptRanges", "internal/bytealg.MaxLen"], apart := false, laid := [("unicode/utf8.acceptRanges", laid_unicode_utf8_acceptRanges), ("unicode/utf8.first", laid_unicode_utf8_first)], narrowed := true }
def ShapeWithinUptoSaid : Prop := shapeWithinUptoRow.holds Tryz.pinned (OpenSpec.upto shapeWithinSpec)

end Rows
end Go.Proofs.YtcjmpafkcmlhbaaGreatDoor
