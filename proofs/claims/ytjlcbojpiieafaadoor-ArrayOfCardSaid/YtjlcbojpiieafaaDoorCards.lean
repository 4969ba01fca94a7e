/-
  DERIVED. GIVEN WITH THE SEED: THE CARDS: each row of YtjlcbojpiieafaaDoorRows.lean that lists a variable, with what it lists TIED to the program's text (the seventh form; the later family's looks); each row that meets fmt, with fmt's text TOLD by the authors' own Lean function (tested against real Go, not proved from fmt's source: count such statements apart). THE CARD IS WHAT COUNTS. Prove the row's statement (the work); the ties are given (YtjlcbojpiieafaaDoorTie.lean); close each card by the builder's one call (the guide's Derived/Test/ToyasCard.lean, 'card_holds'). Laid BY PROGRAM, IN A SANDBOX (cutbox-door.mjs). By AI agents, Wed Nov 11 2026. No macro, syntax, notation, axiom, sorry.
-/
import Derived.Test.YtjlcbojpiieafaaDoorRows
import GoSem.ClaimSeven
namespace Go.Proofs.YtjlcbojpiieafaaDoor
namespace Rows

/-- THE TIED CARD OF 'framewiselaw18.ArrayPlaces'. -/
def arrayPlacesCard : Claim7 := { stood := { row := arrayPlacesRow, standIns := [], harness := (true, "939f42c8b06cf1e3c50883ec290b66b8ca4ea8206e990e8ad9e62d81c9831c94"), looks := false }, kinds := [], alts := [], laidByText := true, laidKinds := [.data, .data, .data], laidTests := true, laidLooks := .later }
def ArrayPlacesCardSaid : Prop := Claim7.holds Tryd.pinned (.plain (OpenSpec.ofChange arrayPlacesSpec)) arrayPlacesCard

/-- THE TIED CARD OF 'framewiselaw18.ArrayOrder'. -/
def arrayOrderCard : Claim7 := { stood := { row := arrayOrderRow, standIns := [], harness := (true, "939f42c8b06cf1e3c50883ec290b66b8ca4ea8206e990e8ad9e62d81c9831c94"), looks := false }, kinds := [], alts := [], laidByText := true, laidKinds := [.data, .data, .data], laidTests := true, laidLooks := .later }
def ArrayOrderCardSaid : Prop := Claim7.holds Tryd.pinned (.plain (OpenSpec.ofChange arrayOrderSpec)) arrayOrderCard

/-- THE TIED CARD OF 'framewiselaw18.ArrayOf'. -/
def arrayOfCard : Claim7 := { stood := { row := arrayOfRow, standIns := [], harness := (true, "939f42c8b06cf1e3c50883ec290b66b8ca4ea8206e990e8ad9e62d81c9831c94"), looks := false }, kinds := [], alts := [], laidByText := true, laidKinds := [.data, .data, .data], laidTests := true, laidLooks := .later }
def ArrayOfCardSaid : Prop := Claim7.holds Tryd.pinned (.plain (OpenSpec.ofChange arrayOfSpec)) arrayOfCard

/-- THE TIED CARD OF 'framewiselaw18.ArrayElements'. -/
def arrayElementsCard : Claim7 := { stood := { row := arrayElementsRow, standIns := [], harness := (true, "939f42c8b06cf1e3c50883ec290b66b8ca4ea8206e990e8ad9e62d81c9831c94"), looks := false }, kinds := [], alts := [], laidByText := true, laidKinds := [.data, .data, .data], laidTests := true, laidLooks := .later }
def ArrayElementsCardSaid : Prop := Claim7.holds Tryd.pinned (.plain (OpenSpec.ofChange arrayElementsSpec)) arrayElementsCard

/-- THE TIED CARD OF 'framewiselaw18.ArraySet'. -/
def arraySetCard : Claim7 := { stood := { row := arraySetRow, standIns := [], harness := (true, "939f42c8b06cf1e3c50883ec290b66b8ca4ea8206e990e8ad9e62d81c9831c94"), looks := false }, kinds := [], alts := [], laidByText := true, laidKinds := [.data, .data, .data], laidTests := true, laidLooks := .later }
def ArraySetCardSaid : Prop := Claim7.holds Tryd.pinned (.plain (OpenSpec.ofChange arraySetSpec)) arraySetCard

/-- THE SECOND FORM's CARD OF 'framewiselaw18.ArrayPlaces'. -/
def arrayPlacesUptoCard : Claim7 := { stood := { row := arrayPlacesUptoRow, standIns := [], harness := (true, "939f42c8b06cf1e3c50883ec290b66b8ca4ea8206e990e8ad9e62d81c9831c94"), looks := false }, kinds := [], alts := [], laidByText := true, laidKinds := [.data, .data, .data], laidTests := true, laidLooks := .later }
def ArrayPlacesUptoCardSaid : Prop := Claim7.holds Tryd.pinned (.plain (OpenSpec.upto arrayPlacesSpec)) arrayPlacesUptoCard

/-- THE SECOND FORM's CARD OF 'framewiselaw18.ArrayOrder'. -/
def arrayOrderUptoCard : Claim7 := { stood := { row := arrayOrderUptoRow, standIns := [], harness := (true, "939f42c8b06cf1e3c50883ec290b66b8ca4ea8206e990e8ad9e62d81c9831c94"), looks := false }, kinds := [], alts := [], laidByText := true, laidKinds := [.data, .data, .data], laidTests := true, laidLooks := .later }
def ArrayOrderUptoCardSaid : Prop := Claim7.holds Tryd.pinned (.plain (OpenSpec.upto arrayOrderSpec)) arrayOrderUptoCard

/-- THE SECOND FORM's CARD OF 'framewiselaw18.ArrayOf'. -/
def arrayOfUptoCard : Claim7 := { stood := { row := arrayOfUptoRow, standIns := [], harness := (true, "939f42c8b06cf1e3c50883ec290b66b8ca4ea8206e990e8ad9e62d81c9831c94"), looks := false }, kinds := [], alts := [], laidByText := true, laidKinds := [.data, .data, .data], laidTests := true, laidLooks := .later }
def ArrayOfUptoCardSaid : Prop := Claim7.holds Tryd.pinned (.plain (OpenSpec.upto arrayOfSpec)) arrayOfUptoCard

/-- THE SECOND FORM's CARD OF 'framewiselaw18.ArrayElements'. -/
def arrayElementsUptoCard : Claim7 := { stood := { row := arrayElementsUptoRow, standIns := [], harness := (true, "939f42c8b06cf1e3c50883ec290b66b8ca4ea8206e990e8ad9e62d81c9831c94"), looks := false }, kinds := [], alts := [], laidByText := true, laidKinds := [.data, .data, .data], laidTests := true, laidLooks := .later }
def ArrayElementsUptoCardSaid : Prop := Claim7.holds Tryd.pinned (.plain (OpenSpec.upto arrayElementsSpec)) arrayElementsUptoCard

/-- THE SECOND FORM's CARD OF 'framewiselaw18.ArraySet'. -/
def arraySetUptoCard : Claim7 := { stood := { row := arraySetUptoRow, standIns := [], harness := (true, "939f42c8b06cf1e3c50883ec290b66b8ca4ea8206e990e8ad9e62d81c9831c94"), looks := false }, kinds := [], alts := [], laidByText := true, laidKinds := [.data, .data, .data], laidTests := true, laidLooks := .later }
def ArraySetUptoCardSaid : Prop := Claim7.holds Tryd.pinned (.plain (OpenSpec.upto arraySetSpec)) arraySetUptoCard
end Rows
end Go.Proofs.YtjlcbojpiieafaaDoor
