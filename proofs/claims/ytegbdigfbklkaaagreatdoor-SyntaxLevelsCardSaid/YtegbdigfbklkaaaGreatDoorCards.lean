/-
  DERIVED. GIVEN WITH THE SEED: THE CARDS: each row of YtegbdigfbklkaaaGreatDoorRows.lean that lists a variable, with what it lists TIED to the program's text (the seventh form; the later family's looks); each row that meets fmt, with fmt's text TOLD by the authors' own Lean function (tested against real Go, not proved from fmt's source: count such statements apart). THE CARD IS WHAT COUNTS. Prove the row's statement (the work); the ties are given (YtegbdigfbklkaaaGreatDoorTie.lean); close each card by the builder's one call (the guide's Derived/Test/ToyasCard.lean, 'card_holds'). Laid BY PROGRAM, IN A SANDBOX (cutbox-door.mjs). By AI agents, Wed Nov 11 2026. No macro, syntax, notation, axiom, sorry.
-/
import Derived.Test.YtegbdigfbklkaaaGreatDoorRows
import GoSem.ClaimSeven
namespace Go.Proofs.YtegbdigfbklkaaaGreatDoor
namespace Rows

/-- THE TIED CARD OF 'emendlaw12.SyntaxLevels'. -/
def syntaxLevelsCard : Claim7 := { stood := { row := syntaxLevelsRow, standIns := [], harness := (true, "f25d45906c3341fb8dbd893487a6e9bbe0f437673835b07cc2107392f3deb1f6"), looks := true }, kinds := [], alts := [], laidByText := true, laidKinds := [.data, .pinned], laidTests := true, laidLooks := .later }
def SyntaxLevelsCardSaid : Prop := Claim7.holds Tryz.pinned (.plain (OpenSpec.ofChange syntaxLevelsSpec)) syntaxLevelsCard

/-- THE TIED CARD OF 'emendlaw12.SyntaxTrees'. -/
def syntaxTreesCard : Claim7 := { stood := { row := syntaxTreesRow, standIns := [], harness := (true, "f25d45906c3341fb8dbd893487a6e9bbe0f437673835b07cc2107392f3deb1f6"), looks := true }, kinds := [], alts := [], laidByText := true, laidKinds := [.data, .pinned], laidTests := true, laidLooks := .later }
def SyntaxTreesCardSaid : Prop := Claim7.holds Tryz.pinned (.plain (OpenSpec.ofChange syntaxTreesSpec)) syntaxTreesCard

/-- THE TIED CARD OF 'emendlaw12.SyntaxFresh'. -/
def syntaxFreshCard : Claim7 := { stood := { row := syntaxFreshRow, standIns := [], harness := (true, "f25d45906c3341fb8dbd893487a6e9bbe0f437673835b07cc2107392f3deb1f6"), looks := true }, kinds := [], alts := [], laidByText := true, laidKinds := [.data, .pinned], laidTests := true, laidLooks := .later }
def SyntaxFreshCardSaid : Prop := Claim7.holds Tryz.pinned (.plain (OpenSpec.ofChange syntaxFreshSpec)) syntaxFreshCard

/-- THE SECOND FORM's CARD OF 'emendlaw12.SyntaxLevels'. -/
def syntaxLevelsUptoCard : Claim7 := { stood := { row := syntaxLevelsUptoRow, standIns := [], harness := (true, "f25d45906c3341fb8dbd893487a6e9bbe0f437673835b07cc2107392f3deb1f6"), looks := true }, kinds := [], alts := [], laidByText := true, laidKinds := [.data, .pinned], laidTests := true, laidLooks := .later }
def SyntaxLevelsUptoCardSaid : Prop := Claim7.holds Tryz.pinned (.plain (OpenSpec.upto syntaxLevelsSpec)) syntaxLevelsUptoCard

/-- THE SECOND FORM's CARD OF 'emendlaw12.SyntaxTrees'. -/
def syntaxTreesUptoCard : Claim7 := { stood := { row := syntaxTreesUptoRow, standIns := [], harness := (true, "f25d45906c3341fb8dbd893487a6e9bbe0f437673835b07cc2107392f3deb1f6"), looks := true }, kinds := [], alts := [], laidByText := true, laidKinds := [.data, .pinned], laidTests := true, laidLooks := .later }
def SyntaxTreesUptoCardSaid : Prop := Claim7.holds Tryz.pinned (.plain (OpenSpec.upto syntaxTreesSpec)) syntaxTreesUptoCard

/-- THE SECOND FORM's CARD OF 'emendlaw12.SyntaxFresh'. -/
def syntaxFreshUptoCard : Claim7 := { stood := { row := syntaxFreshUptoRow, standIns := [], harness := (true, "f25d45906c3341fb8dbd893487a6e9bbe0f437673835b07cc2107392f3deb1f6"), looks := true }, kinds := [], alts := [], laidByText := true, laidKinds := [.data, .pinned], laidTests := true, laidLooks := .later }
def SyntaxFreshUptoCardSaid : Prop := Claim7.holds Tryz.pinned (.plain (OpenSpec.upto syntaxFreshSpec)) syntaxFreshUptoCard
end Rows
end Go.Proofs.YtegbdigfbklkaaaGreatDoor
