/-
  DERIVED. GIVEN WITH THE SEED: THE CARDS: each row of YtcfbkabiapaobaaDoorRows.lean that lists a variable, with what it lists TIED to the program's text (the seventh form; the later family's looks); each row that meets fmt, with fmt's text TOLD by the authors' own Lean function (tested against real Go, not proved from fmt's source: count such statements apart). THE CARD IS WHAT COUNTS. Prove the row's statement (the work); the ties are given (YtcfbkabiapaobaaDoorTie.lean); close each card by the builder's one call (the guide's Derived/Test/ToyasCard.lean, 'card_holds'). Laid BY PROGRAM, IN A SANDBOX (cutbox-door.mjs). By AI agents, Wed Nov 11 2026. No macro, syntax, notation, axiom, sorry.
-/
import Derived.Test.YtcfbkabiapaobaaDoorRows
import GoSem.ClaimSeven
namespace Go.Proofs.YtcfbkabiapaobaaDoor
namespace Rows

/-- THE TIED CARD OF 'geofencelaw18.CodecDecodes'. -/
def codecDecodesCard : Claim7 := { stood := { row := codecDecodesRow, standIns := [], harness := (true, "7f9f07a49041f2ca903c132fbec0059c782b032f04b0339d9e85494cdc6bb307"), looks := false }, kinds := [], alts := [], laidByText := true, laidKinds := [.data], laidTests := true, laidLooks := .later }
def CodecDecodesCardSaid : Prop := Claim7.holds Tryd.pinned (.plain (OpenSpec.ofChange codecDecodesSpec)) codecDecodesCard

/-- THE TIED CARD OF 'geofencelaw18.CodecRoundTrip'. -/
def codecRoundTripCard : Claim7 := { stood := { row := codecRoundTripRow, standIns := [], harness := (true, "7f9f07a49041f2ca903c132fbec0059c782b032f04b0339d9e85494cdc6bb307"), looks := false }, kinds := [], alts := [], laidByText := true, laidKinds := [.data], laidTests := true, laidLooks := .later }
def CodecRoundTripCardSaid : Prop := Claim7.holds Tryd.pinned (.plain (OpenSpec.ofChange codecRoundTripSpec)) codecRoundTripCard

/-- THE TIED CARD OF 'geofencelaw18.CodecIsCanonical'. -/
def codecIsCanonicalCard : Claim7 := { stood := { row := codecIsCanonicalRow, standIns := [], harness := (true, "7f9f07a49041f2ca903c132fbec0059c782b032f04b0339d9e85494cdc6bb307"), looks := false }, kinds := [], alts := [], laidByText := true, laidKinds := [.data], laidTests := true, laidLooks := .later }
def CodecIsCanonicalCardSaid : Prop := Claim7.holds Tryd.pinned (.plain (OpenSpec.ofChange codecIsCanonicalSpec)) codecIsCanonicalCard

/-- THE SECOND FORM's CARD OF 'geofencelaw18.CodecDecodes'. -/
def codecDecodesUptoCard : Claim7 := { stood := { row := codecDecodesUptoRow, standIns := [], harness := (true, "7f9f07a49041f2ca903c132fbec0059c782b032f04b0339d9e85494cdc6bb307"), looks := false }, kinds := [], alts := [], laidByText := true, laidKinds := [.data], laidTests := true, laidLooks := .later }
def CodecDecodesUptoCardSaid : Prop := Claim7.holds Tryd.pinned (.plain (OpenSpec.upto codecDecodesSpec)) codecDecodesUptoCard

/-- THE SECOND FORM's CARD OF 'geofencelaw18.CodecRoundTrip'. -/
def codecRoundTripUptoCard : Claim7 := { stood := { row := codecRoundTripUptoRow, standIns := [], harness := (true, "7f9f07a49041f2ca903c132fbec0059c782b032f04b0339d9e85494cdc6bb307"), looks := false }, kinds := [], alts := [], laidByText := true, laidKinds := [.data], laidTests := true, laidLooks := .later }
def CodecRoundTripUptoCardSaid : Prop := Claim7.holds Tryd.pinned (.plain (OpenSpec.upto codecRoundTripSpec)) codecRoundTripUptoCard

/-- THE SECOND FORM's CARD OF 'geofencelaw18.CodecIsCanonical'. -/
def codecIsCanonicalUptoCard : Claim7 := { stood := { row := codecIsCanonicalUptoRow, standIns := [], harness := (true, "7f9f07a49041f2ca903c132fbec0059c782b032f04b0339d9e85494cdc6bb307"), looks := false }, kinds := [], alts := [], laidByText := true, laidKinds := [.data], laidTests := true, laidLooks := .later }
def CodecIsCanonicalUptoCardSaid : Prop := Claim7.holds Tryd.pinned (.plain (OpenSpec.upto codecIsCanonicalSpec)) codecIsCanonicalUptoCard
end Rows
end Go.Proofs.YtcfbkabiapaobaaDoor
