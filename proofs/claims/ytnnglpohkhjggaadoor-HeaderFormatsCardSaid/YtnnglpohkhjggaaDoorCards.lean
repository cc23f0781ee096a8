/-
  DERIVED. GIVEN WITH THE SEED: THE CARDS: each row of YtnnglpohkhjggaaDoorRows.lean that lists a variable, with what it lists TIED to the program's text (the seventh form; the later family's looks); each row that meets fmt, with fmt's text TOLD by the authors' own Lean function (tested against real Go, not proved from fmt's source: count such statements apart). THE CARD IS WHAT COUNTS. Prove the row's statement (the work); the ties are given (YtnnglpohkhjggaaDoorTie.lean); close each card by the builder's one call (the guide's Derived/Test/ToyasCard.lean, 'card_holds'). Laid BY PROGRAM, IN A SANDBOX (cutbox-door.mjs). By AI agents, Wed Nov 11 2026. No macro, syntax, notation, axiom, sorry.
-/
import Derived.Test.YtnnglpohkhjggaaDoorRows
import GoSem.ClaimSeven
namespace Go.Proofs.YtnnglpohkhjggaaDoor
namespace Rows

/-- THE TIED CARD OF 'geofencelaw17.HeaderParses'. -/
def headerParsesCard : Claim7 := { stood := { row := headerParsesRow, standIns := [], harness := (true, "3a5679be93647b10b2702b9ba68ea34d2de85f6be9aa9d55400d8dd6df5bcc43"), looks := false }, kinds := [], alts := [], laidByText := true, laidKinds := [.data], laidTests := true, laidLooks := .later }
def HeaderParsesCardSaid : Prop := Claim7.holds Tryd.pinned (.plain (OpenSpec.ofChange headerParsesSpec)) headerParsesCard

/-- THE TIED CARD OF 'geofencelaw17.HeaderClassifies'. -/
def headerClassifiesCard : Claim7 := { stood := { row := headerClassifiesRow, standIns := [], harness := (true, "3a5679be93647b10b2702b9ba68ea34d2de85f6be9aa9d55400d8dd6df5bcc43"), looks := false }, kinds := [], alts := [], laidByText := true, laidKinds := [.data], laidTests := true, laidLooks := .later }
def HeaderClassifiesCardSaid : Prop := Claim7.holds Tryd.pinned (.plain (OpenSpec.ofChange headerClassifiesSpec)) headerClassifiesCard

/-- THE TIED CARD OF 'geofencelaw17.HeaderPrefixes'. -/
def headerPrefixesCard : Claim7 := { stood := { row := headerPrefixesRow, standIns := [], harness := (true, "3a5679be93647b10b2702b9ba68ea34d2de85f6be9aa9d55400d8dd6df5bcc43"), looks := false }, kinds := [], alts := [], laidByText := true, laidKinds := [.data], laidTests := true, laidLooks := .later }
def HeaderPrefixesCardSaid : Prop := Claim7.holds Tryd.pinned (.plain (OpenSpec.ofChange headerPrefixesSpec)) headerPrefixesCard

/-- THE TIED CARD OF 'geofencelaw17.HeaderLengths'. -/
def headerLengthsCard : Claim7 := { stood := { row := headerLengthsRow, standIns := [], harness := (true, "3a5679be93647b10b2702b9ba68ea34d2de85f6be9aa9d55400d8dd6df5bcc43"), looks := false }, kinds := [], alts := [], laidByText := true, laidKinds := [.data], laidTests := true, laidLooks := .later }
def HeaderLengthsCardSaid : Prop := Claim7.holds Tryd.pinned (.plain (OpenSpec.ofChange headerLengthsSpec)) headerLengthsCard

/-- THE TIED CARD OF 'geofencelaw17.HeaderRoundTrip'. -/
def headerRoundTripCard : Claim7 := { stood := { row := headerRoundTripRow, standIns := [], harness := (true, "3a5679be93647b10b2702b9ba68ea34d2de85f6be9aa9d55400d8dd6df5bcc43"), looks := false }, kinds := [], alts := [], laidByText := true, laidKinds := [.data], laidTests := true, laidLooks := .later }
def HeaderRoundTripCardSaid : Prop := Claim7.holds Tryd.pinned (.plain (OpenSpec.ofChange headerRoundTripSpec)) headerRoundTripCard

/-- THE TIED CARD OF 'geofencelaw17.HeaderFormats'. -/
def headerFormatsCard : Claim7 := { stood := { row := headerFormatsRow, standIns := [], harness := (true, "3a5679be93647b10b2702b9ba68ea34d2de85f6be9aa9d55400d8dd6df5bcc43"), looks := false }, kinds := [], alts := [], laidByText := true, laidKinds := [.data], laidTests := true, laidLooks := .later }
def HeaderFormatsCardSaid : Prop := Claim7.holds Tryd.pinned (.plain (OpenSpec.ofChange headerFormatsSpec)) headerFormatsCard

/-- THE TIED CARD OF 'geofencelaw17.HeaderIsCanonical'. -/
def headerIsCanonicalCard : Claim7 := { stood := { row := headerIsCanonicalRow, standIns := [], harness := (true, "3a5679be93647b10b2702b9ba68ea34d2de85f6be9aa9d55400d8dd6df5bcc43"), looks := false }, kinds := [], alts := [], laidByText := true, laidKinds := [.data], laidTests := true, laidLooks := .later }
def HeaderIsCanonicalCardSaid : Prop := Claim7.holds Tryd.pinned (.plain (OpenSpec.ofChange headerIsCanonicalSpec)) headerIsCanonicalCard

/-- THE SECOND FORM's CARD OF 'geofencelaw17.HeaderParses'. -/
def headerParsesUptoCard : Claim7 := { stood := { row := headerParsesUptoRow, standIns := [], harness := (true, "3a5679be93647b10b2702b9ba68ea34d2de85f6be9aa9d55400d8dd6df5bcc43"), looks := false }, kinds := [], alts := [], laidByText := true, laidKinds := [.data], laidTests := true, laidLooks := .later }
def HeaderParsesUptoCardSaid : Prop := Claim7.holds Tryd.pinned (.plain (OpenSpec.upto headerParsesSpec)) headerParsesUptoCard

/-- THE SECOND FORM's CARD OF 'geofencelaw17.HeaderClassifies'. -/
def headerClassifiesUptoCard : Claim7 := { stood := { row := headerClassifiesUptoRow, standIns := [], harness := (true, "3a5679be93647b10b2702b9ba68ea34d2de85f6be9aa9d55400d8dd6df5bcc43"), looks := false }, kinds := [], alts := [], laidByText := true, laidKinds := [.data], laidTests := true, laidLooks := .later }
def HeaderClassifiesUptoCardSaid : Prop := Claim7.holds Tryd.pinned (.plain (OpenSpec.upto headerClassifiesSpec)) headerClassifiesUptoCard

/-- THE SECOND FORM's CARD OF 'geofencelaw17.HeaderPrefixes'. -/
def headerPrefixesUptoCard : Claim7 := { stood := { row := headerPrefixesUptoRow, standIns := [], harness := (true, "3a5679be93647b10b2702b9ba68ea34d2de85f6be9aa9d55400d8dd6df5bcc43"), looks := false }, kinds := [], alts := [], laidByText := true, laidKinds := [.data], laidTests := true, laidLooks := .later }
def HeaderPrefixesUptoCardSaid : Prop := Claim7.holds Tryd.pinned (.plain (OpenSpec.upto headerPrefixesSpec)) headerPrefixesUptoCard

/-- THE SECOND FORM's CARD OF 'geofencelaw17.HeaderLengths'. -/
def headerLengthsUptoCard : Claim7 := { stood := { row := headerLengthsUptoRow, standIns := [], harness := (true, "3a5679be93647b10b2702b9ba68ea34d2de85f6be9aa9d55400d8dd6df5bcc43"), looks := false }, kinds := [], alts := [], laidByText := true, laidKinds := [.data], laidTests := true, laidLooks := .later }
def HeaderLengthsUptoCardSaid : Prop := Claim7.holds Tryd.pinned (.plain (OpenSpec.upto headerLengthsSpec)) headerLengthsUptoCard

/-- THE SECOND FORM's CARD OF 'geofencelaw17.HeaderRoundTrip'. -/
def headerRoundTripUptoCard : Claim7 := { stood := { row := headerRoundTripUptoRow, standIns := [], harness := (true, "3a5679be93647b10b2702b9ba68ea34d2de85f6be9aa9d55400d8dd6df5bcc43"), looks := false }, kinds := [], alts := [], laidByText := true, laidKinds := [.data], laidTests := true, laidLooks := .later }
def HeaderRoundTripUptoCardSaid : Prop := Claim7.holds Tryd.pinned (.plain (OpenSpec.upto headerRoundTripSpec)) headerRoundTripUptoCard

/-- THE SECOND FORM's CARD OF 'geofencelaw17.HeaderFormats'. -/
def headerFormatsUptoCard : Claim7 := { stood := { row := headerFormatsUptoRow, standIns := [], harness := (true, "3a5679be93647b10b2702b9ba68ea34d2de85f6be9aa9d55400d8dd6df5bcc43"), looks := false }, kinds := [], alts := [], laidByText := true, laidKinds := [.data], laidTests := true, laidLooks := .later }
def HeaderFormatsUptoCardSaid : Prop := Claim7.holds Tryd.pinned (.plain (OpenSpec.upto headerFormatsSpec)) headerFormatsUptoCard

/-- THE SECOND FORM's CARD OF 'geofencelaw17.HeaderIsCanonical'. -/
def headerIsCanonicalUptoCard : Claim7 := { stood := { row := headerIsCanonicalUptoRow, standIns := [], harness := (true, "3a5679be93647b10b2702b9ba68ea34d2de85f6be9aa9d55400d8dd6df5bcc43"), looks := false }, kinds := [], alts := [], laidByText := true, laidKinds := [.data], laidTests := true, laidLooks := .later }
def HeaderIsCanonicalUptoCardSaid : Prop := Claim7.holds Tryd.pinned (.plain (OpenSpec.upto headerIsCanonicalSpec)) headerIsCanonicalUptoCard
end Rows
end Go.Proofs.YtnnglpohkhjggaaDoor
