/-
  No cell of these rows narrows 'for every input' (looked for: loops, veiled, ifaces, maps, wideKeys, modest, calm, conditions, laid).
  DERIVED. THE GIVEN ROWS OF THIS SEAT. 4 by the template 'for every input the law returns true; each argument reads behind the call as it read before'; 0 by the template 'total and deterministic' (their statements: YtgmkokophcmbnaaTotals.lean).
  GIVEN WITH THE SEED: the statements are not yours to turn. If you find one false, say at which input.
  Laid BY PROGRAM, IN A SANDBOX (cutbox-rows.mjs): the forced cells as the released guide's own fill.sh prints them over the translation b722fd14032a8a81… (all of the seat's roots in one cut). By AI agents, Wed Nov 11 2026. No macro, syntax, notation, axiom, sorry.
-/
import Derived.Test.YtgmkokophcmbnaaChecked
import GoSem.Claim
import GoSem.ClaimJoined
import GoSem.ClaimMapViews
import Derived.JoinedTies
import Derived.KernelRfl
namespace Go.Proofs.Ytgmkokophcmbnaa
/- THE CELL 'sum', in the pinned program and in every row, IS THE sha256 OF THE DUMP (.gsa) THAT YtgmkokophcmbnaaProg.lean LOADS. Nothing in Lean hashes anything: it is a label: what it is worth is what the hold of that sum in a sandbox is worth. -/
noncomputable def Try.pinned : Pinned := { name := "ytgmkokophcmbnaa", sum := "b722fd14032a8a815ba2628b71a1c2d413b944577d6a82795cae29d0eb527ed2", checked := Try.checked }
namespace Rows
def none {H : Type} : Left H := { results := [], args := [] }

/-- 'emendlaw15.GuardLevels': WHATEVER THE INPUT: true; the input reads as it did. -/
def guardLevelsSpec : ChangeSpec := { name := "guardLevels", fn := fun _ => fun
  | [d] => { results := [.lit (.bool true)], args := [d] }
  | _ => none }
def guardLevelsRow : OpenClaim := { program := "ytgmkokophcmbnaa", sum := "b722fd14032a8a815ba2628b71a1c2d413b944577d6a82795cae29d0eb527ed2", func := "emend/emendlaw15.GuardLevels", spec := "guardLevels", inPlace := ["internal/bytealg.IndexByteString", "internal/bytealg.IndexString"], unfollowed := true, recurses := true, named := ["internal/bytealg.MaxLen"], apart := false }
def GuardLevelsSaid : Prop := guardLevelsRow.holds Try.pinned (OpenSpec.ofChange guardLevelsSpec)

/-- ITS FALSE NEIGHBOUR: 'it returns false'. Refute it at one input. -/
def guardLevelsWrong : ChangeSpec := { name := "guardLevels", fn := fun _ => fun
  | [d] => { results := [.lit (.bool false)], args := [d] }
  | _ => none }
def GuardLevelsWrongFalsely : Prop := guardLevelsRow.holds Try.pinned (OpenSpec.ofChange guardLevelsWrong)

/-- 'emendlaw15.GuardPuts': WHATEVER THE INPUT: true; the input reads as it did. -/
def guardPutsSpec : ChangeSpec := { name := "guardPuts", fn := fun _ => fun
  | [d1, d2] => { results := [.lit (.bool true)], args := [d1, d2] }
  | _ => none }
def guardPutsRow : OpenClaim := { program := "ytgmkokophcmbnaa", sum := "b722fd14032a8a815ba2628b71a1c2d413b944577d6a82795cae29d0eb527ed2", func := "emend/emendlaw15.GuardPuts", spec := "guardPuts", inPlace := ["internal/bytealg.IndexByteString", "internal/bytealg.IndexString"], unfollowed := true, recurses := true, named := ["internal/bytealg.MaxLen"], apart := false }
def GuardPutsSaid : Prop := guardPutsRow.holds Try.pinned (OpenSpec.ofChange guardPutsSpec)

/-- ITS FALSE NEIGHBOUR: 'it returns false'. Refute it at one input. -/
def guardPutsWrong : ChangeSpec := { name := "guardPuts", fn := fun _ => fun
  | [d1, d2] => { results := [.lit (.bool false)], args := [d1, d2] }
  | _ => none }
def GuardPutsWrongFalsely : Prop := guardPutsRow.holds Try.pinned (OpenSpec.ofChange guardPutsWrong)

/-- 'emendlaw15.GuardTwice': WHATEVER THE INPUT: true; the input reads as it did. -/
def guardTwiceSpec : ChangeSpec := { name := "guardTwice", fn := fun _ => fun
  | [d] => { results := [.lit (.bool true)], args := [d] }
  | _ => none }
def guardTwiceRow : OpenClaim := { program := "ytgmkokophcmbnaa", sum := "b722fd14032a8a815ba2628b71a1c2d413b944577d6a82795cae29d0eb527ed2", func := "emend/emendlaw15.GuardTwice", spec := "guardTwice", inPlace := ["internal/bytealg.IndexByteString", "internal/bytealg.IndexString"], unfollowed := true, recurses := true, named := ["internal/bytealg.MaxLen"], apart := false }
def GuardTwiceSaid : Prop := guardTwiceRow.holds Try.pinned (OpenSpec.ofChange guardTwiceSpec)

/-- ITS FALSE NEIGHBOUR: 'it returns false'. Refute it at one input. -/
def guardTwiceWrong : ChangeSpec := { name := "guardTwice", fn := fun _ => fun
  | [d] => { results := [.lit (.bool false)], args := [d] }
  | _ => none }
def GuardTwiceWrongFalsely : Prop := guardTwiceRow.holds Try.pinned (OpenSpec.ofChange guardTwiceWrong)

/-- 'emendlaw15.GuardFresh': WHATEVER THE INPUT: true; the input reads as it did. -/
def guardFreshSpec : ChangeSpec := { name := "guardFresh", fn := fun _ => fun
  | [d] => { results := [.lit (.bool true)], args := [d] }
  | _ => none }
def guardFreshRow : OpenClaim := { program := "ytgmkokophcmbnaa", sum := "b722fd14032a8a815ba2628b71a1c2d413b944577d6a82795cae29d0eb527ed2", func := "emend/emendlaw15.GuardFresh", spec := "guardFresh", inPlace := ["internal/bytealg.IndexByteString", "internal/bytealg.IndexString"], unfollowed := true, recurses := true, named := ["internal/bytealg.MaxLen"], apart := false }
def GuardFreshSaid : Prop := guardFreshRow.holds Try.pinned (OpenSpec.ofChange guardFreshSpec)

/-- ITS FALSE NEIGHBOUR: 'it returns false'. Refute it at one input. -/
def guardFreshWrong : ChangeSpec := { name := "guardFresh", fn := fun _ => fun
  | [d] => { results := [.lit (.bool false)], args := [d] }
  | _ => none }
def GuardFreshWrongFalsely : Prop := guardFreshRow.holds Try.pinned (OpenSpec.ofChange guardFreshWrong)

/- THE SECOND FORM. 'bulk': how many values and letters a reading holds, each counted each time it is reached (what is shared counts as often as it is met; a slice's spare places count too). A statement '..UptoSaid' is the law's where the arguments, and the package variables that the reading takes, are together of bulk at most 1048576: NARROWER than '..Said'. Prove '..Said' where nothing that the law and all that it calls make is longer than what came in: it says more and counts as full. Else prove '..UptoSaid'. A law counts once. -/
mutual
def uptoBulk {H : Type} : DataW H → Nat
  | .lit (.string bytes) => bytes.length + 1
  | .lit _ => 1
  | .nil => 1
  | .ptr d => uptoBulk d + 1
  | .slice elems spare => uptoBulkAll elems + uptoBulkAll spare + 1
  | .agg parts => uptoBulkAll parts + 1
  | .iface _ d => uptoBulk d + 1
  | .map entries => uptoBulkEntries entries + 1
  | .held _ => 1
def uptoBulkAll {H : Type} : List (DataW H) → Nat
  | [] => 0
  | d :: r => uptoBulk d + uptoBulkAll r
def uptoBulkEntries {H : Type} : List (Lit × DataW H) → Nat
  | [] => 0
  | x :: r => uptoBulkEntry x + uptoBulkEntries r
def uptoBulkEntry {H : Type} : Lit × DataW H → Nat
  | (.string bytes, d) => bytes.length + uptoBulk d + 1
  | (_, d) => uptoBulk d + 1
 end
def uptoSmall : (H : Type) → List (DataW H) → Bool := fun _ ds => decide (uptoBulkAll ds ≤ 1048576)
def OpenSpec.upto (s : _root_.Go.ChangeSpec) : _root_.Go.OpenSpec := { _root_.Go.OpenSpec.ofChange s with cond := some uptoSmall }

/-- 'emendlaw15.GuardLevels', WHERE WHAT IT READS IS OF BULK AT MOST 1048576: true; the input reads as it did. -/
def guardLevelsUptoRow : OpenClaim := { program := "ytgmkokophcmbnaa", sum := "b722fd14032a8a815ba2628b71a1c2d413b944577d6a82795cae29d0eb527ed2", func := "emend/emendlaw15.GuardLevels", spec := "guardLevels", inPlace := ["internal/bytealg.IndexByteString", "internal/bytealg.IndexString"], unfollowed := true, recurses := true, named := ["internal/bytealg.MaxLen"], apart := false, narrowed := true }
def GuardLevelsUptoSaid : Prop := guardLevelsUptoRow.holds Try.pinned (OpenSpec.upto guardLevelsSpec)

/-- 'emendlaw15.GuardPuts', WHERE WHAT IT READS IS OF BULK AT MOST 1048576: true; the input reads as it did. -/
def guardPutsUptoRow : OpenClaim := { program := "ytgmkokophcmbnaa", sum := "b722fd14032a8a815ba2628b71a1c2d413b944577d6a82795cae29d0eb527ed2", func := "emend/emendlaw15.GuardPuts", spec := "guardPuts", inPlace := ["internal/bytealg.IndexByteString", "internal/bytealg.IndexString"], unfollowed := true, recurses := true, named := ["internal/bytealg.MaxLen"], apart := false, narrowed := true }
def GuardPutsUptoSaid : Prop := guardPutsUptoRow.holds Try.pinned (OpenSpec.upto guardPutsSpec)

/-- 'emendlaw15.GuardTwice', WHERE WHAT IT READS IS OF BULK AT MOST 1048576: true; the input reads as it did. -/
def guardTwiceUptoRow : OpenClaim := { program := "ytgmkokophcmbnaa", sum := "b722fd14032a8a815ba2628b71a1c2d413b944577d6a82795cae29d0eb527ed2", func := "emend/emendlaw15.GuardTwice", spec := "guardTwice", inPlace := ["internal/bytealg.IndexByteString", "internal/bytealg.IndexString"], unfollowed := true, recurses := true, named := ["internal/bytealg.MaxLen"], apart := false, narrowed := true }
def GuardTwiceUptoSaid : Prop := guardTwiceUptoRow.holds Try.pinned (OpenSpec.upto guardTwiceSpec)

/-- 'emendlaw15.GuardFresh', WHERE WHAT IT READS IS OF BULK AT MOST 1048576: true; the input reads as it did. -/
def guardFreshUptoRow : OpenClaim := { program := "ytgmkokophcmbnaa", sum := "b722fd14032a8a815ba2628b71a1c2d413b944577d6a82795cae29d0eb527ed2", func := "emend/emendlaw15.GuardFresh", spec := "guardFresh", inPlace := ["internal/bytealg.IndexByteString", "internal/bytealg.IndexString"], unfollowed := true, recurses := true, named := ["internal/bytealg.MaxLen"], apart := false, narrowed := true }
def GuardFreshUptoSaid : Prop := guardFreshUptoRow.holds Try.pinned (OpenSpec.upto guardFreshSpec)

end Rows
end Go.Proofs.Ytgmkokophcmbnaa
