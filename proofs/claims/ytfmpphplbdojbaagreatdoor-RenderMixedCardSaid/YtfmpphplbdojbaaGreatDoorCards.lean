/-
  DERIVED. GIVEN WITH THE SEED: THE CARDS: each row of YtfmpphplbdojbaaGreatDoorRows.lean that lists a variable, with what it lists TIED to the program's text (the seventh form; the later family's looks); each row that meets fmt, with fmt's text TOLD by the authors' own Lean function (tested against real Go, not proved from fmt's source: count such statements apart). THE CARD IS WHAT COUNTS. Prove the row's statement (the work); the ties are given (YtfmpphplbdojbaaGreatDoorTie.lean); close each card by the builder's one call (the guide's Derived/Test/ToyasCard.lean, 'card_holds'). Laid BY PROGRAM, IN A SANDBOX (cutbox-door.mjs). By AI agents, Wed Nov 11 2026. No macro, syntax, notation, axiom, sorry.
-/
import Derived.Test.YtfmpphplbdojbaaGreatDoorRows
import GoSem.ClaimSeven
namespace Go.Proofs.YtfmpphplbdojbaaGreatDoor
namespace Rows

/-- THE TIED CARD OF 'emendlaw14.RenderTexts'. -/
def renderTextsCard : Claim7 := { stood := { row := renderTextsRow, standIns := [], harness := (true, "dbb6135d3520b8c436783097ee2b2ca4e7676026b621e360bb8ca8fbf32d22f8"), looks := true }, kinds := [], alts := [], laidByText := true, laidKinds := [.data, .pinned], laidTests := true, laidLooks := .later }
def RenderTextsCardSaid : Prop := Claim7.holds Tryz.pinned (.plain (OpenSpec.ofChange renderTextsSpec)) renderTextsCard

/-- THE TIED CARD OF 'emendlaw14.RenderMixed'. -/
def renderMixedCard : Claim7 := { stood := { row := renderMixedRow, standIns := [], harness := (true, "dbb6135d3520b8c436783097ee2b2ca4e7676026b621e360bb8ca8fbf32d22f8"), looks := true }, kinds := [], alts := [], laidByText := true, laidKinds := [.data, .pinned], laidTests := true, laidLooks := .later }
def RenderMixedCardSaid : Prop := Claim7.holds Tryz.pinned (.plain (OpenSpec.ofChange renderMixedSpec)) renderMixedCard

/-- THE TIED CARD OF 'emendlaw14.RenderRaw'. -/
def renderRawCard : Claim7 := { stood := { row := renderRawRow, standIns := [], harness := (true, "dbb6135d3520b8c436783097ee2b2ca4e7676026b621e360bb8ca8fbf32d22f8"), looks := true }, kinds := [], alts := [], laidByText := true, laidKinds := [.data, .pinned], laidTests := true, laidLooks := .later }
def RenderRawCardSaid : Prop := Claim7.holds Tryz.pinned (.plain (OpenSpec.ofChange renderRawSpec)) renderRawCard

/-- THE TIED CARD OF 'emendlaw14.RenderOwn'. -/
def renderOwnCard : Claim7 := { stood := { row := renderOwnRow, standIns := [], harness := (true, "dbb6135d3520b8c436783097ee2b2ca4e7676026b621e360bb8ca8fbf32d22f8"), looks := true }, kinds := [], alts := [], laidByText := true, laidKinds := [.data, .pinned], laidTests := true, laidLooks := .later }
def RenderOwnCardSaid : Prop := Claim7.holds Tryz.pinned (.plain (OpenSpec.ofChange renderOwnSpec)) renderOwnCard

/-- THE TIED CARD OF 'emendlaw15.GuardFits'. -/
def guardFitsCard : Claim7 := { stood := { row := guardFitsRow, standIns := [], harness := (true, "dbb6135d3520b8c436783097ee2b2ca4e7676026b621e360bb8ca8fbf32d22f8"), looks := true }, kinds := [], alts := [], laidByText := true, laidKinds := [.data, .pinned], laidTests := true, laidLooks := .later }
def GuardFitsCardSaid : Prop := Claim7.holds Tryz.pinned (.plain (OpenSpec.ofChange guardFitsSpec)) guardFitsCard

/-- THE SECOND FORM's CARD OF 'emendlaw14.RenderTexts'. -/
def renderTextsUptoCard : Claim7 := { stood := { row := renderTextsUptoRow, standIns := [], harness := (true, "dbb6135d3520b8c436783097ee2b2ca4e7676026b621e360bb8ca8fbf32d22f8"), looks := true }, kinds := [], alts := [], laidByText := true, laidKinds := [.data, .pinned], laidTests := true, laidLooks := .later }
def RenderTextsUptoCardSaid : Prop := Claim7.holds Tryz.pinned (.plain (OpenSpec.upto renderTextsSpec)) renderTextsUptoCard

/-- THE SECOND FORM's CARD OF 'emendlaw14.RenderMixed'. -/
def renderMixedUptoCard : Claim7 := { stood := { row := renderMixedUptoRow, standIns := [], harness := (true, "dbb6135d3520b8c436783097ee2b2ca4e7676026b621e360bb8ca8fbf32d22f8"), looks := true }, kinds := [], alts := [], laidByText := true, laidKinds := [.data, .pinned], laidTests := true, laidLooks := .later }
def RenderMixedUptoCardSaid : Prop := Claim7.holds Tryz.pinned (.plain (OpenSpec.upto renderMixedSpec)) renderMixedUptoCard

/-- THE SECOND FORM's CARD OF 'emendlaw14.RenderRaw'. -/
def renderRawUptoCard : Claim7 := { stood := { row := renderRawUptoRow, standIns := [], harness := (true, "dbb6135d3520b8c436783097ee2b2ca4e7676026b621e360bb8ca8fbf32d22f8"), looks := true }, kinds := [], alts := [], laidByText := true, laidKinds := [.data, .pinned], laidTests := true, laidLooks := .later }
def RenderRawUptoCardSaid : Prop := Claim7.holds Tryz.pinned (.plain (OpenSpec.upto renderRawSpec)) renderRawUptoCard

/-- THE SECOND FORM's CARD OF 'emendlaw14.RenderOwn'. -/
def renderOwnUptoCard : Claim7 := { stood := { row := renderOwnUptoRow, standIns := [], harness := (true, "dbb6135d3520b8c436783097ee2b2ca4e7676026b621e360bb8ca8fbf32d22f8"), looks := true }, kinds := [], alts := [], laidByText := true, laidKinds := [.data, .pinned], laidTests := true, laidLooks := .later }
def RenderOwnUptoCardSaid : Prop := Claim7.holds Tryz.pinned (.plain (OpenSpec.upto renderOwnSpec)) renderOwnUptoCard

/-- THE SECOND FORM's CARD OF 'emendlaw15.GuardFits'. -/
def guardFitsUptoCard : Claim7 := { stood := { row := guardFitsUptoRow, standIns := [], harness := (true, "dbb6135d3520b8c436783097ee2b2ca4e7676026b621e360bb8ca8fbf32d22f8"), looks := true }, kinds := [], alts := [], laidByText := true, laidKinds := [.data, .pinned], laidTests := true, laidLooks := .later }
def GuardFitsUptoCardSaid : Prop := Claim7.holds Tryz.pinned (.plain (OpenSpec.upto guardFitsSpec)) guardFitsUptoCard
end Rows
end Go.Proofs.YtfmpphplbdojbaaGreatDoor
