/-
  DERIVED. GIVEN WITH THE SEED: THE CARDS: each row of YthdpbmpdiaencaaDoorRows.lean that lists a variable, with what it lists TIED to the program's text (the seventh form; the later family's looks); each row that meets fmt, with fmt's text TOLD by the authors' own Lean function (tested against real Go, not proved from fmt's source: count such statements apart). THE CARD IS WHAT COUNTS. Prove the row's statement (the work); the ties are given (YthdpbmpdiaencaaDoorTie.lean); close each card by the builder's one call (the guide's Derived/Test/ToyasCard.lean, 'card_holds'). Laid BY PROGRAM, IN A SANDBOX (cutbox-door.mjs). By AI agents, Wed Nov 11 2026. No macro, syntax, notation, axiom, sorry.
-/
import Derived.Test.YthdpbmpdiaencaaDoorRows
import GoSem.ClaimSeven
namespace Go.Proofs.YthdpbmpdiaencaaDoor
namespace Rows

/-- THE TIED CARD OF 'geofencelaw04.DecimalFormats'. -/
def decimalFormatsCard : Claim7 := { stood := { row := decimalFormatsRow, standIns := [], harness := (true, "6186ad0fa7b3455a736033591b6d3f1954fdf86ea4994d85b15ee990a450d56b"), looks := false }, kinds := [], alts := [], laidByText := true, laidKinds := [.data, .data, .pinned], laidTests := true, laidLooks := .later }
def DecimalFormatsCardSaid : Prop := Claim7.holds Tryd.pinned (.plain (OpenSpec.ofChange decimalFormatsSpec)) decimalFormatsCard

/-- THE TIED CARD OF 'geofencelaw04.DecimalParses'. -/
def decimalParsesCard : Claim7 := { stood := { row := decimalParsesRow, standIns := [], harness := (true, "6186ad0fa7b3455a736033591b6d3f1954fdf86ea4994d85b15ee990a450d56b"), looks := false }, kinds := [], alts := [], laidByText := true, laidKinds := [.data, .data, .pinned], laidTests := true, laidLooks := .later }
def DecimalParsesCardSaid : Prop := Claim7.holds Tryd.pinned (.plain (OpenSpec.ofChange decimalParsesSpec)) decimalParsesCard

/-- THE TIED CARD OF 'geofencelaw04.DecimalRoundTrip'. -/
def decimalRoundTripCard : Claim7 := { stood := { row := decimalRoundTripRow, standIns := [], harness := (true, "6186ad0fa7b3455a736033591b6d3f1954fdf86ea4994d85b15ee990a450d56b"), looks := false }, kinds := [], alts := [], laidByText := true, laidKinds := [.data, .data, .pinned], laidTests := true, laidLooks := .later }
def DecimalRoundTripCardSaid : Prop := Claim7.holds Tryd.pinned (.plain (OpenSpec.ofChange decimalRoundTripSpec)) decimalRoundTripCard

/-- THE TIED CARD OF 'geofencelaw04.DecimalIsCanonical'. -/
def decimalIsCanonicalCard : Claim7 := { stood := { row := decimalIsCanonicalRow, standIns := [], harness := (true, "6186ad0fa7b3455a736033591b6d3f1954fdf86ea4994d85b15ee990a450d56b"), looks := false }, kinds := [], alts := [], laidByText := true, laidKinds := [.data, .data, .pinned], laidTests := true, laidLooks := .later }
def DecimalIsCanonicalCardSaid : Prop := Claim7.holds Tryd.pinned (.plain (OpenSpec.ofChange decimalIsCanonicalSpec)) decimalIsCanonicalCard

/-- THE TIED CARD OF 'geofencelaw04.DecimalDivides'. -/
def decimalDividesCard : Claim7 := { stood := { row := decimalDividesRow, standIns := [], harness := (true, "6186ad0fa7b3455a736033591b6d3f1954fdf86ea4994d85b15ee990a450d56b"), looks := false }, kinds := [], alts := [], laidByText := true, laidKinds := [.data, .data, .pinned], laidTests := true, laidLooks := .later }
def DecimalDividesCardSaid : Prop := Claim7.holds Tryd.pinned (.plain (OpenSpec.ofChange decimalDividesSpec)) decimalDividesCard

/-- THE TIED CARD OF 'geofencelaw04.DecimalDigits'. -/
def decimalDigitsCard : Claim7 := { stood := { row := decimalDigitsRow, standIns := [], harness := (true, "6186ad0fa7b3455a736033591b6d3f1954fdf86ea4994d85b15ee990a450d56b"), looks := false }, kinds := [], alts := [], laidByText := true, laidKinds := [.data, .data, .pinned], laidTests := true, laidLooks := .later }
def DecimalDigitsCardSaid : Prop := Claim7.holds Tryd.pinned (.plain (OpenSpec.ofChange decimalDigitsSpec)) decimalDigitsCard

/-- THE SECOND FORM's CARD OF 'geofencelaw04.DecimalFormats'. -/
def decimalFormatsUptoCard : Claim7 := { stood := { row := decimalFormatsUptoRow, standIns := [], harness := (true, "6186ad0fa7b3455a736033591b6d3f1954fdf86ea4994d85b15ee990a450d56b"), looks := false }, kinds := [], alts := [], laidByText := true, laidKinds := [.data, .data, .pinned], laidTests := true, laidLooks := .later }
def DecimalFormatsUptoCardSaid : Prop := Claim7.holds Tryd.pinned (.plain (OpenSpec.upto decimalFormatsSpec)) decimalFormatsUptoCard

/-- THE SECOND FORM's CARD OF 'geofencelaw04.DecimalParses'. -/
def decimalParsesUptoCard : Claim7 := { stood := { row := decimalParsesUptoRow, standIns := [], harness := (true, "6186ad0fa7b3455a736033591b6d3f1954fdf86ea4994d85b15ee990a450d56b"), looks := false }, kinds := [], alts := [], laidByText := true, laidKinds := [.data, .data, .pinned], laidTests := true, laidLooks := .later }
def DecimalParsesUptoCardSaid : Prop := Claim7.holds Tryd.pinned (.plain (OpenSpec.upto decimalParsesSpec)) decimalParsesUptoCard

/-- THE SECOND FORM's CARD OF 'geofencelaw04.DecimalRoundTrip'. -/
def decimalRoundTripUptoCard : Claim7 := { stood := { row := decimalRoundTripUptoRow, standIns := [], harness := (true, "6186ad0fa7b3455a736033591b6d3f1954fdf86ea4994d85b15ee990a450d56b"), looks := false }, kinds := [], alts := [], laidByText := true, laidKinds := [.data, .data, .pinned], laidTests := true, laidLooks := .later }
def DecimalRoundTripUptoCardSaid : Prop := Claim7.holds Tryd.pinned (.plain (OpenSpec.upto decimalRoundTripSpec)) decimalRoundTripUptoCard

/-- THE SECOND FORM's CARD OF 'geofencelaw04.DecimalIsCanonical'. -/
def decimalIsCanonicalUptoCard : Claim7 := { stood := { row := decimalIsCanonicalUptoRow, standIns := [], harness := (true, "6186ad0fa7b3455a736033591b6d3f1954fdf86ea4994d85b15ee990a450d56b"), looks := false }, kinds := [], alts := [], laidByText := true, laidKinds := [.data, .data, .pinned], laidTests := true, laidLooks := .later }
def DecimalIsCanonicalUptoCardSaid : Prop := Claim7.holds Tryd.pinned (.plain (OpenSpec.upto decimalIsCanonicalSpec)) decimalIsCanonicalUptoCard

/-- THE SECOND FORM's CARD OF 'geofencelaw04.DecimalDivides'. -/
def decimalDividesUptoCard : Claim7 := { stood := { row := decimalDividesUptoRow, standIns := [], harness := (true, "6186ad0fa7b3455a736033591b6d3f1954fdf86ea4994d85b15ee990a450d56b"), looks := false }, kinds := [], alts := [], laidByText := true, laidKinds := [.data, .data, .pinned], laidTests := true, laidLooks := .later }
def DecimalDividesUptoCardSaid : Prop := Claim7.holds Tryd.pinned (.plain (OpenSpec.upto decimalDividesSpec)) decimalDividesUptoCard

/-- THE SECOND FORM's CARD OF 'geofencelaw04.DecimalDigits'. -/
def decimalDigitsUptoCard : Claim7 := { stood := { row := decimalDigitsUptoRow, standIns := [], harness := (true, "6186ad0fa7b3455a736033591b6d3f1954fdf86ea4994d85b15ee990a450d56b"), looks := false }, kinds := [], alts := [], laidByText := true, laidKinds := [.data, .data, .pinned], laidTests := true, laidLooks := .later }
def DecimalDigitsUptoCardSaid : Prop := Claim7.holds Tryd.pinned (.plain (OpenSpec.upto decimalDigitsSpec)) decimalDigitsUptoCard
end Rows
end Go.Proofs.YthdpbmpdiaencaaDoor
