/-
  DERIVED. GIVEN WITH THE SEED: THE CARDS: each row of YtcjmpafkcmlhbaaGreatDoorRows.lean that lists a variable, with what it lists TIED to the program's text (the seventh form; the later family's looks); each row that meets fmt, with fmt's text TOLD by the authors' own Lean function (tested against real Go, not proved from fmt's source: count such statements apart). THE CARD IS WHAT COUNTS. Prove the row's statement (the work); the ties are given (YtcjmpafkcmlhbaaGreatDoorTie.lean); close each card by the builder's one call (the guide's Derived/Test/ToyasCard.lean, 'card_holds'). Laid BY PROGRAM, IN A SANDBOX (cutbox-door.mjs). By AI agents, Wed Nov 11 2026. No macro, syntax, notation, axiom, sorry.
-/
import Derived.Test.YtcjmpafkcmlhbaaGreatDoorRows
import GoSem.ClaimSeven
namespace Go.Proofs.YtcjmpafkcmlhbaaGreatDoor
namespace Rows

/-- THE TIED CARD OF 'emendlaw15.GuardReads'. -/
def guardReadsCard : Claim7 := { stood := { row := guardReadsRow, standIns := [], harness := (true, "7591058258987127a8e455b6e24cf410bc940fd6986c239928999d8a96951e7e"), looks := true }, kinds := [], alts := [], laidByText := true, laidKinds := [.data, .pinned], laidTests := true, laidLooks := .later }
def GuardReadsCardSaid : Prop := Claim7.holds Tryz.pinned (.plain (OpenSpec.ofChange guardReadsSpec)) guardReadsCard

/-- THE TIED CARD OF 'emendlaw13.ShapeFlaws'. -/
def shapeFlawsCard : Claim7 := { stood := { row := shapeFlawsRow, standIns := [], harness := (true, "7591058258987127a8e455b6e24cf410bc940fd6986c239928999d8a96951e7e"), looks := true }, kinds := [], alts := [], laidByText := true, laidKinds := [.data, .pinned], laidTests := true, laidLooks := .later }
def ShapeFlawsCardSaid : Prop := Claim7.holds Tryz.pinned (.plain (OpenSpec.ofChange shapeFlawsSpec)) shapeFlawsCard

/-- THE TIED CARD OF 'emendlaw13.ShapeJoins'. -/
def shapeJoinsCard : Claim7 := { stood := { row := shapeJoinsRow, standIns := [], harness := (true, "7591058258987127a8e455b6e24cf410bc940fd6986c239928999d8a96951e7e"), looks := true }, kinds := [], alts := [], laidByText := true, laidKinds := [.data, .pinned], laidTests := true, laidLooks := .later }
def ShapeJoinsCardSaid : Prop := Claim7.holds Tryz.pinned (.plain (OpenSpec.ofChange shapeJoinsSpec)) shapeJoinsCard

/-- THE TIED CARD OF 'emendlaw13.ShapeOrder'. -/
def shapeOrderCard : Claim7 := { stood := { row := shapeOrderRow, standIns := [], harness := (true, "7591058258987127a8e455b6e24cf410bc940fd6986c239928999d8a96951e7e"), looks := true }, kinds := [], alts := [], laidByText := true, laidKinds := [.data, .pinned], laidTests := true, laidLooks := .later }
def ShapeOrderCardSaid : Prop := Claim7.holds Tryz.pinned (.plain (OpenSpec.ofChange shapeOrderSpec)) shapeOrderCard

/-- THE TIED CARD OF 'emendlaw13.ShapeFresh'. -/
def shapeFreshCard : Claim7 := { stood := { row := shapeFreshRow, standIns := [], harness := (true, "7591058258987127a8e455b6e24cf410bc940fd6986c239928999d8a96951e7e"), looks := true }, kinds := [], alts := [], laidByText := true, laidKinds := [.data, .pinned], laidTests := true, laidLooks := .later }
def ShapeFreshCardSaid : Prop := Claim7.holds Tryz.pinned (.plain (OpenSpec.ofChange shapeFreshSpec)) shapeFreshCard

/-- THE TIED CARD OF 'emendlaw13.ShapeWithin'. -/
def shapeWithinCard : Claim7 := { stood := { row := shapeWithinRow, standIns := [], harness := (true, "7591058258987127a8e455b6e24cf410bc940fd6986c239928999d8a96951e7e"), looks := true }, kinds := [], alts := [], laidByText := true, laidKinds := [.data, .pinned], laidTests := true, laidLooks := .later }
def ShapeWithinCardSaid : Prop := Claim7.holds Tryz.pinned (.plain (OpenSpec.ofChange shapeWithinSpec)) shapeWithinCard

/-- THE SECOND FORM's CARD OF 'emendlaw15.GuardReads'. -/
def guardReadsUptoCard : Claim7 := { stood := { row := guardReadsUptoRow, standIns := [], harness := (true, "7591058258987127a8e455b6e24cf410bc940fd6986c239928999d8a96951e7e"), looks := true }, kinds := [], alts := [], laidByText := true, laidKinds := [.data, .pinned], laidTests := true, laidLooks := .later }
def GuardReadsUptoCardSaid : Prop := Claim7.holds Tryz.pinned (.plain (OpenSpec.upto guardReadsSpec)) guardReadsUptoCard

/-- THE SECOND FORM's CARD OF 'emendlaw13.ShapeFlaws'. -/
def shapeFlawsUptoCard : Claim7 := { stood := { row := shapeFlawsUptoRow, standIns := [], harness := (true, "7591058258987127a8e455b6e24cf410bc940fd6986c239928999d8a96951e7e"), looks := true }, kinds := [], alts := [], laidByText := true, laidKinds := [.data, .pinned], laidTests := true, laidLooks := .later }
def ShapeFlawsUptoCardSaid : Prop := Claim7.holds Tryz.pinned (.plain (OpenSpec.upto shapeFlawsSpec)) shapeFlawsUptoCard

/-- THE SECOND FORM's CARD OF 'emendlaw13.ShapeJoins'. -/
def shapeJoinsUptoCard : Claim7 := { stood := { row := shapeJoinsUptoRow, standIns := [], harness := (true, "7591058258987127a8e455b6e24cf410bc940fd6986c239928999d8a96951e7e"), looks := true }, kinds := [], alts := [], laidByText := true, laidKinds := [.data, .pinned], laidTests := true, laidLooks := .later }
def ShapeJoinsUptoCardSaid : Prop := Claim7.holds Tryz.pinned (.plain (OpenSpec.upto shapeJoinsSpec)) shapeJoinsUptoCard

/-- THE SECOND FORM's CARD OF 'emendlaw13.ShapeOrder'. -/
def shapeOrderUptoCard : Claim7 := { stood := { row := shapeOrderUptoRow, standIns := [], harness := (true, "7591058258987127a8e455b6e24cf410bc940fd6986c239928999d8a96951e7e"), looks := true }, kinds := [], alts := [], laidByText := true, laidKinds := [.data, .pinned], laidTests := true, laidLooks := .later }
def ShapeOrderUptoCardSaid : Prop := Claim7.holds Tryz.pinned (.plain (OpenSpec.upto shapeOrderSpec)) shapeOrderUptoCard

/-- THE SECOND FORM's CARD OF 'emendlaw13.ShapeFresh'. -/
def shapeFreshUptoCard : Claim7 := { stood := { row := shapeFreshUptoRow, standIns := [], harness := (true, "7591058258987127a8e455b6e24cf410bc940fd6986c239928999d8a96951e7e"), looks := true }, kinds := [], alts := [], laidByText := true, laidKinds := [.data, .pinned], laidTests := true, laidLooks := .later }
def ShapeFreshUptoCardSaid : Prop := Claim7.holds Tryz.pinned (.plain (OpenSpec.upto shapeFreshSpec)) shapeFreshUptoCard

/-- THE SECOND FORM's CARD OF 'emendlaw13.ShapeWithin'. -/
def shapeWithinUptoCard : Claim7 := { stood := { row := shapeWithinUptoRow, standIns := [], harness := (true, "7591058258987127a8e455b6e24cf410bc940fd6986c239928999d8a96951e7e"), looks := true }, kinds := [], alts := [], laidByText := true, laidKinds := [.data, .pinned], laidTests := true, laidLooks := .later }
def ShapeWithinUptoCardSaid : Prop := Claim7.holds Tryz.pinned (.plain (OpenSpec.upto shapeWithinSpec)) shapeWithinUptoCard
end Rows
end Go.Proofs.YtcjmpafkcmlhbaaGreatDoor
