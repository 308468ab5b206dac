/-
  DERIVED. GIVEN WITH THE SEED: THE CARDS: each row of YtiochgoocbkckaaGreatDoorRows.lean that lists a variable, with what it lists TIED to the program's text (the seventh form; the later family's looks); each row that meets fmt, with fmt's text TOLD by the authors' own Lean function (tested against real Go, not proved from fmt's source: count such statements apart). THE CARD IS WHAT COUNTS. Prove the row's statement (the work); the ties are given (YtiochgoocbkckaaGreatDoorTie.lean); close each card by the builder's one call (the guide's Derived/Test/ToyasCard.lean, 'card_holds'). Laid BY PROGRAM, IN A SANDBOX (cutbox-door.mjs). By AI agents, Wed Nov 11 2026. No macro, syntax, notation, axiom, sorry.
-/
import Derived.Test.YtiochgoocbkckaaGreatDoorRows
import GoSem.ClaimSeven
namespace Go.Proofs.YtiochgoocbkckaaGreatDoor
namespace Rows

/-- THE TIED CARD OF 'viatorlaw08.PolygonRings'. -/
def polygonRingsCard : Claim7 := { stood := { row := polygonRingsRow, standIns := [], harness := (true, "043bb0be6e0f4336c486c30fa2ae68132307b92901ed44789437448a649a7946"), looks := false }, kinds := [], alts := [], laidByText := true, laidKinds := [.data, .pinned], laidTests := true, laidLooks := .later }
def PolygonRingsCardSaid : Prop := Claim7.holds Tryz.pinned (.plain (OpenSpec.ofChange polygonRingsSpec)) polygonRingsCard

/-- THE TIED CARD OF 'viatorlaw08.PolygonChecks'. -/
def polygonChecksCard : Claim7 := { stood := { row := polygonChecksRow, standIns := [], harness := (true, "043bb0be6e0f4336c486c30fa2ae68132307b92901ed44789437448a649a7946"), looks := false }, kinds := [], alts := [], laidByText := true, laidKinds := [.data, .pinned], laidTests := true, laidLooks := .later }
def PolygonChecksCardSaid : Prop := Claim7.holds Tryz.pinned (.plain (OpenSpec.ofChange polygonChecksSpec)) polygonChecksCard

/-- THE TIED CARD OF 'viatorlaw08.PolygonForms'. -/
def polygonFormsCard : Claim7 := { stood := { row := polygonFormsRow, standIns := [], harness := (true, "043bb0be6e0f4336c486c30fa2ae68132307b92901ed44789437448a649a7946"), looks := false }, kinds := [], alts := [], laidByText := true, laidKinds := [.data, .pinned], laidTests := true, laidLooks := .later }
def PolygonFormsCardSaid : Prop := Claim7.holds Tryz.pinned (.plain (OpenSpec.ofChange polygonFormsSpec)) polygonFormsCard

/-- THE TIED CARD OF 'viatorlaw08.PolygonAreas'. -/
def polygonAreasCard : Claim7 := { stood := { row := polygonAreasRow, standIns := [], harness := (true, "043bb0be6e0f4336c486c30fa2ae68132307b92901ed44789437448a649a7946"), looks := false }, kinds := [], alts := [], laidByText := true, laidKinds := [.data, .pinned], laidTests := true, laidLooks := .later }
def PolygonAreasCardSaid : Prop := Claim7.holds Tryz.pinned (.plain (OpenSpec.ofChange polygonAreasSpec)) polygonAreasCard

/-- THE TIED CARD OF 'viatorlaw08.PolygonLocates'. -/
def polygonLocatesCard : Claim7 := { stood := { row := polygonLocatesRow, standIns := [], harness := (true, "043bb0be6e0f4336c486c30fa2ae68132307b92901ed44789437448a649a7946"), looks := false }, kinds := [], alts := [], laidByText := true, laidKinds := [.data, .pinned], laidTests := true, laidLooks := .later }
def PolygonLocatesCardSaid : Prop := Claim7.holds Tryz.pinned (.plain (OpenSpec.ofChange polygonLocatesSpec)) polygonLocatesCard

/-- THE TIED CARD OF 'viatorlaw08.PolygonTouches'. -/
def polygonTouchesCard : Claim7 := { stood := { row := polygonTouchesRow, standIns := [], harness := (true, "043bb0be6e0f4336c486c30fa2ae68132307b92901ed44789437448a649a7946"), looks := false }, kinds := [], alts := [], laidByText := true, laidKinds := [.data, .pinned], laidTests := true, laidLooks := .later }
def PolygonTouchesCardSaid : Prop := Claim7.holds Tryz.pinned (.plain (OpenSpec.ofChange polygonTouchesSpec)) polygonTouchesCard

/-- THE TIED CARD OF 'viatorlaw08.PolygonTranslates'. -/
def polygonTranslatesCard : Claim7 := { stood := { row := polygonTranslatesRow, standIns := [], harness := (true, "043bb0be6e0f4336c486c30fa2ae68132307b92901ed44789437448a649a7946"), looks := false }, kinds := [], alts := [], laidByText := true, laidKinds := [.data, .pinned], laidTests := true, laidLooks := .later }
def PolygonTranslatesCardSaid : Prop := Claim7.holds Tryz.pinned (.plain (OpenSpec.ofChange polygonTranslatesSpec)) polygonTranslatesCard

/-- THE TIED CARD OF 'viatorlaw08.PolygonCanonical'. -/
def polygonCanonicalCard : Claim7 := { stood := { row := polygonCanonicalRow, standIns := [], harness := (true, "043bb0be6e0f4336c486c30fa2ae68132307b92901ed44789437448a649a7946"), looks := false }, kinds := [], alts := [], laidByText := true, laidKinds := [.data, .pinned], laidTests := true, laidLooks := .later }
def PolygonCanonicalCardSaid : Prop := Claim7.holds Tryz.pinned (.plain (OpenSpec.ofChange polygonCanonicalSpec)) polygonCanonicalCard

/-- THE TIED CARD OF 'viatorlaw08.PolygonEquals'. -/
def polygonEqualsCard : Claim7 := { stood := { row := polygonEqualsRow, standIns := [], harness := (true, "043bb0be6e0f4336c486c30fa2ae68132307b92901ed44789437448a649a7946"), looks := false }, kinds := [], alts := [], laidByText := true, laidKinds := [.data, .pinned], laidTests := true, laidLooks := .later }
def PolygonEqualsCardSaid : Prop := Claim7.holds Tryz.pinned (.plain (OpenSpec.ofChange polygonEqualsSpec)) polygonEqualsCard

/-- THE TIED CARD OF 'viatorlaw08.PolygonEdges'. -/
def polygonEdgesCard : Claim7 := { stood := { row := polygonEdgesRow, standIns := [], harness := (true, "043bb0be6e0f4336c486c30fa2ae68132307b92901ed44789437448a649a7946"), looks := false }, kinds := [], alts := [], laidByText := true, laidKinds := [.data, .pinned], laidTests := true, laidLooks := .later }
def PolygonEdgesCardSaid : Prop := Claim7.holds Tryz.pinned (.plain (OpenSpec.ofChange polygonEdgesSpec)) polygonEdgesCard

/-- THE TIED CARD OF 'viatorlaw08.PolygonInner'. -/
def polygonInnerCard : Claim7 := { stood := { row := polygonInnerRow, standIns := [], harness := (true, "043bb0be6e0f4336c486c30fa2ae68132307b92901ed44789437448a649a7946"), looks := false }, kinds := [], alts := [], laidByText := true, laidKinds := [.data, .pinned], laidTests := true, laidLooks := .later }
def PolygonInnerCardSaid : Prop := Claim7.holds Tryz.pinned (.plain (OpenSpec.ofChange polygonInnerSpec)) polygonInnerCard

/-- THE TIED CARD OF 'viatorlaw08.PolygonContains'. -/
def polygonContainsCard : Claim7 := { stood := { row := polygonContainsRow, standIns := [], harness := (true, "043bb0be6e0f4336c486c30fa2ae68132307b92901ed44789437448a649a7946"), looks := false }, kinds := [], alts := [], laidByText := true, laidKinds := [.data, .pinned], laidTests := true, laidLooks := .later }
def PolygonContainsCardSaid : Prop := Claim7.holds Tryz.pinned (.plain (OpenSpec.ofChange polygonContainsSpec)) polygonContainsCard

/-- THE SECOND FORM's CARD OF 'viatorlaw08.PolygonRings'. -/
def polygonRingsUptoCard : Claim7 := { stood := { row := polygonRingsUptoRow, standIns := [], harness := (true, "043bb0be6e0f4336c486c30fa2ae68132307b92901ed44789437448a649a7946"), looks := false }, kinds := [], alts := [], laidByText := true, laidKinds := [.data, .pinned], laidTests := true, laidLooks := .later }
def PolygonRingsUptoCardSaid : Prop := Claim7.holds Tryz.pinned (.plain (OpenSpec.upto polygonRingsSpec)) polygonRingsUptoCard

/-- THE SECOND FORM's CARD OF 'viatorlaw08.PolygonChecks'. -/
def polygonChecksUptoCard : Claim7 := { stood := { row := polygonChecksUptoRow, standIns := [], harness := (true, "043bb0be6e0f4336c486c30fa2ae68132307b92901ed44789437448a649a7946"), looks := false }, kinds := [], alts := [], laidByText := true, laidKinds := [.data, .pinned], laidTests := true, laidLooks := .later }
def PolygonChecksUptoCardSaid : Prop := Claim7.holds Tryz.pinned (.plain (OpenSpec.upto polygonChecksSpec)) polygonChecksUptoCard

/-- THE SECOND FORM's CARD OF 'viatorlaw08.PolygonForms'. -/
def polygonFormsUptoCard : Claim7 := { stood := { row := polygonFormsUptoRow, standIns := [], harness := (true, "043bb0be6e0f4336c486c30fa2ae68132307b92901ed44789437448a649a7946"), looks := false }, kinds := [], alts := [], laidByText := true, laidKinds := [.data, .pinned], laidTests := true, laidLooks := .later }
def PolygonFormsUptoCardSaid : Prop := Claim7.holds Tryz.pinned (.plain (OpenSpec.upto polygonFormsSpec)) polygonFormsUptoCard

/-- THE SECOND FORM's CARD OF 'viatorlaw08.PolygonAreas'. -/
def polygonAreasUptoCard : Claim7 := { stood := { row := polygonAreasUptoRow, standIns := [], harness := (true, "043bb0be6e0f4336c486c30fa2ae68132307b92901ed44789437448a649a7946"), looks := false }, kinds := [], alts := [], laidByText := true, laidKinds := [.data, .pinned], laidTests := true, laidLooks := .later }
def PolygonAreasUptoCardSaid : Prop := Claim7.holds Tryz.pinned (.plain (OpenSpec.upto polygonAreasSpec)) polygonAreasUptoCard

/-- THE SECOND FORM's CARD OF 'viatorlaw08.PolygonLocates'. -/
def polygonLocatesUptoCard : Claim7 := { stood := { row := polygonLocatesUptoRow, standIns := [], harness := (true, "043bb0be6e0f4336c486c30fa2ae68132307b92901ed44789437448a649a7946"), looks := false }, kinds := [], alts := [], laidByText := true, laidKinds := [.data, .pinned], laidTests := true, laidLooks := .later }
def PolygonLocatesUptoCardSaid : Prop := Claim7.holds Tryz.pinned (.plain (OpenSpec.upto polygonLocatesSpec)) polygonLocatesUptoCard

/-- THE SECOND FORM's CARD OF 'viatorlaw08.PolygonTouches'. -/
def polygonTouchesUptoCard : Claim7 := { stood := { row := polygonTouchesUptoRow, standIns := [], harness := (true, "043bb0be6e0f4336c486c30fa2ae68132307b92901ed44789437448a649a7946"), looks := false }, kinds := [], alts := [], laidByText := true, laidKinds := [.data, .pinned], laidTests := true, laidLooks := .later }
def PolygonTouchesUptoCardSaid : Prop := Claim7.holds Tryz.pinned (.plain (OpenSpec.upto polygonTouchesSpec)) polygonTouchesUptoCard

/-- THE SECOND FORM's CARD OF 'viatorlaw08.PolygonTranslates'. -/
def polygonTranslatesUptoCard : Claim7 := { stood := { row := polygonTranslatesUptoRow, standIns := [], harness := (true, "043bb0be6e0f4336c486c30fa2ae68132307b92901ed44789437448a649a7946"), looks := false }, kinds := [], alts := [], laidByText := true, laidKinds := [.data, .pinned], laidTests := true, laidLooks := .later }
def PolygonTranslatesUptoCardSaid : Prop := Claim7.holds Tryz.pinned (.plain (OpenSpec.upto polygonTranslatesSpec)) polygonTranslatesUptoCard

/-- THE SECOND FORM's CARD OF 'viatorlaw08.PolygonCanonical'. -/
def polygonCanonicalUptoCard : Claim7 := { stood := { row := polygonCanonicalUptoRow, standIns := [], harness := (true, "043bb0be6e0f4336c486c30fa2ae68132307b92901ed44789437448a649a7946"), looks := false }, kinds := [], alts := [], laidByText := true, laidKinds := [.data, .pinned], laidTests := true, laidLooks := .later }
def PolygonCanonicalUptoCardSaid : Prop := Claim7.holds Tryz.pinned (.plain (OpenSpec.upto polygonCanonicalSpec)) polygonCanonicalUptoCard

/-- THE SECOND FORM's CARD OF 'viatorlaw08.PolygonEquals'. -/
def polygonEqualsUptoCard : Claim7 := { stood := { row := polygonEqualsUptoRow, standIns := [], harness := (true, "043bb0be6e0f4336c486c30fa2ae68132307b92901ed44789437448a649a7946"), looks := false }, kinds := [], alts := [], laidByText := true, laidKinds := [.data, .pinned], laidTests := true, laidLooks := .later }
def PolygonEqualsUptoCardSaid : Prop := Claim7.holds Tryz.pinned (.plain (OpenSpec.upto polygonEqualsSpec)) polygonEqualsUptoCard

/-- THE SECOND FORM's CARD OF 'viatorlaw08.PolygonEdges'. -/
def polygonEdgesUptoCard : Claim7 := { stood := { row := polygonEdgesUptoRow, standIns := [], harness := (true, "043bb0be6e0f4336c486c30fa2ae68132307b92901ed44789437448a649a7946"), looks := false }, kinds := [], alts := [], laidByText := true, laidKinds := [.data, .pinned], laidTests := true, laidLooks := .later }
def PolygonEdgesUptoCardSaid : Prop := Claim7.holds Tryz.pinned (.plain (OpenSpec.upto polygonEdgesSpec)) polygonEdgesUptoCard

/-- THE SECOND FORM's CARD OF 'viatorlaw08.PolygonInner'. -/
def polygonInnerUptoCard : Claim7 := { stood := { row := polygonInnerUptoRow, standIns := [], harness := (true, "043bb0be6e0f4336c486c30fa2ae68132307b92901ed44789437448a649a7946"), looks := false }, kinds := [], alts := [], laidByText := true, laidKinds := [.data, .pinned], laidTests := true, laidLooks := .later }
def PolygonInnerUptoCardSaid : Prop := Claim7.holds Tryz.pinned (.plain (OpenSpec.upto polygonInnerSpec)) polygonInnerUptoCard

/-- THE SECOND FORM's CARD OF 'viatorlaw08.PolygonContains'. -/
def polygonContainsUptoCard : Claim7 := { stood := { row := polygonContainsUptoRow, standIns := [], harness := (true, "043bb0be6e0f4336c486c30fa2ae68132307b92901ed44789437448a649a7946"), looks := false }, kinds := [], alts := [], laidByText := true, laidKinds := [.data, .pinned], laidTests := true, laidLooks := .later }
def PolygonContainsUptoCardSaid : Prop := Claim7.holds Tryz.pinned (.plain (OpenSpec.upto polygonContainsSpec)) polygonContainsUptoCard
end Rows
end Go.Proofs.YtiochgoocbkckaaGreatDoor
