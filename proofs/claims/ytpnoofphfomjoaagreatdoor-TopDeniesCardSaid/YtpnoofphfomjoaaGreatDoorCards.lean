/-
  DERIVED. GIVEN WITH THE SEED: THE CARDS: each row of YtpnoofphfomjoaaGreatDoorRows.lean that lists a variable, with what it lists TIED to the program's text (the seventh form; the later family's looks); each row that meets fmt, with fmt's text TOLD by the authors' own Lean function (tested against real Go, not proved from fmt's source: count such statements apart). THE CARD IS WHAT COUNTS. Prove the row's statement (the work); the ties are given (YtpnoofphfomjoaaGreatDoorTie.lean); close each card by the builder's one call (the guide's Derived/Test/ToyasCard.lean, 'card_holds'). Laid BY PROGRAM, IN A SANDBOX (cutbox-door.mjs). By AI agents, Wed Nov 11 2026. No macro, syntax, notation, axiom, sorry.
-/
import Derived.Test.YtpnoofphfomjoaaGreatDoorRows
import GoSem.ClaimSeven
namespace Go.Proofs.YtpnoofphfomjoaaGreatDoor
namespace Rows

/-- THE TIED CARD OF 'geofencelaw21.ServeHandles'. -/
def serveHandlesCard : Claim7 := { stood := { row := serveHandlesRow, standIns := [], harness := (true, "48280b222472d7b7f0fa57d8329b1f8c096e96f1e9ea6cec31d43fdf3de5b6e4"), looks := false }, kinds := [], alts := [], laidByText := true, laidKinds := [.data, .data], laidTests := true, laidLooks := .later }
def ServeHandlesCardSaid : Prop := Claim7.holds Tryz.pinned (.plain (OpenSpec.ofChange serveHandlesSpec)) serveHandlesCard

/-- THE TIED CARD OF 'geofencelaw21.ServeRoundTrip'. -/
def serveRoundTripCard : Claim7 := { stood := { row := serveRoundTripRow, standIns := [], harness := (true, "48280b222472d7b7f0fa57d8329b1f8c096e96f1e9ea6cec31d43fdf3de5b6e4"), looks := false }, kinds := [], alts := [], laidByText := true, laidKinds := [.data, .data], laidTests := true, laidLooks := .later }
def ServeRoundTripCardSaid : Prop := Claim7.holds Tryz.pinned (.plain (OpenSpec.ofChange serveRoundTripSpec)) serveRoundTripCard

/-- THE TIED CARD OF 'geofencelaw21.ServeResponds'. -/
def serveRespondsCard : Claim7 := { stood := { row := serveRespondsRow, standIns := [], harness := (true, "48280b222472d7b7f0fa57d8329b1f8c096e96f1e9ea6cec31d43fdf3de5b6e4"), looks := false }, kinds := [], alts := [], laidByText := true, laidKinds := [.data, .data], laidTests := true, laidLooks := .later }
def ServeRespondsCardSaid : Prop := Claim7.holds Tryz.pinned (.plain (OpenSpec.ofChange serveRespondsSpec)) serveRespondsCard

/-- THE TIED CARD OF 'geofencelaw21.ServeEvents'. -/
def serveEventsCard : Claim7 := { stood := { row := serveEventsRow, standIns := [], harness := (true, "48280b222472d7b7f0fa57d8329b1f8c096e96f1e9ea6cec31d43fdf3de5b6e4"), looks := false }, kinds := [], alts := [], laidByText := true, laidKinds := [.data, .data], laidTests := true, laidLooks := .later }
def ServeEventsCardSaid : Prop := Claim7.holds Tryz.pinned (.plain (OpenSpec.ofChange serveEventsSpec)) serveEventsCard

/-- THE TIED CARD OF 'geofencelaw21.ServeClassifies'. -/
def serveClassifiesCard : Claim7 := { stood := { row := serveClassifiesRow, standIns := [], harness := (true, "48280b222472d7b7f0fa57d8329b1f8c096e96f1e9ea6cec31d43fdf3de5b6e4"), looks := false }, kinds := [], alts := [], laidByText := true, laidKinds := [.data, .data], laidTests := true, laidLooks := .later }
def ServeClassifiesCardSaid : Prop := Claim7.holds Tryz.pinned (.plain (OpenSpec.ofChange serveClassifiesSpec)) serveClassifiesCard

/-- THE TIED CARD OF 'geofencelaw21.ServeIsOblivious'. -/
def serveIsObliviousCard : Claim7 := { stood := { row := serveIsObliviousRow, standIns := [], harness := (true, "48280b222472d7b7f0fa57d8329b1f8c096e96f1e9ea6cec31d43fdf3de5b6e4"), looks := false }, kinds := [], alts := [], laidByText := true, laidKinds := [.data, .data], laidTests := true, laidLooks := .later }
def ServeIsObliviousCardSaid : Prop := Claim7.holds Tryz.pinned (.plain (OpenSpec.ofChange serveIsObliviousSpec)) serveIsObliviousCard

/-- THE TIED CARD OF 'geofencetop.TopConvex'. -/
def topConvexCard : Claim7 := { stood := { row := topConvexRow, standIns := [], harness := (true, "48280b222472d7b7f0fa57d8329b1f8c096e96f1e9ea6cec31d43fdf3de5b6e4"), looks := false }, kinds := [], alts := [], laidByText := true, laidKinds := [.data, .data], laidTests := true, laidLooks := .later }
def TopConvexCardSaid : Prop := Claim7.holds Tryz.pinned (.plain (OpenSpec.ofChange topConvexSpec)) topConvexCard

/-- THE TIED CARD OF 'geofencetop.TopSingles'. -/
def topSinglesCard : Claim7 := { stood := { row := topSinglesRow, standIns := [], harness := (true, "48280b222472d7b7f0fa57d8329b1f8c096e96f1e9ea6cec31d43fdf3de5b6e4"), looks := false }, kinds := [], alts := [], laidByText := true, laidKinds := [.data, .data], laidTests := true, laidLooks := .later }
def TopSinglesCardSaid : Prop := Claim7.holds Tryz.pinned (.plain (OpenSpec.ofChange topSinglesSpec)) topSinglesCard

/-- THE TIED CARD OF 'geofencetop.TopDenies'. -/
def topDeniesCard : Claim7 := { stood := { row := topDeniesRow, standIns := [], harness := (true, "48280b222472d7b7f0fa57d8329b1f8c096e96f1e9ea6cec31d43fdf3de5b6e4"), looks := false }, kinds := [], alts := [], laidByText := true, laidKinds := [.data, .data], laidTests := true, laidLooks := .later }
def TopDeniesCardSaid : Prop := Claim7.holds Tryz.pinned (.plain (OpenSpec.ofChange topDeniesSpec)) topDeniesCard

/-- THE SECOND FORM's CARD OF 'geofencelaw21.ServeHandles'. -/
def serveHandlesUptoCard : Claim7 := { stood := { row := serveHandlesUptoRow, standIns := [], harness := (true, "48280b222472d7b7f0fa57d8329b1f8c096e96f1e9ea6cec31d43fdf3de5b6e4"), looks := false }, kinds := [], alts := [], laidByText := true, laidKinds := [.data, .data], laidTests := true, laidLooks := .later }
def ServeHandlesUptoCardSaid : Prop := Claim7.holds Tryz.pinned (.plain (OpenSpec.upto serveHandlesSpec)) serveHandlesUptoCard

/-- THE SECOND FORM's CARD OF 'geofencelaw21.ServeRoundTrip'. -/
def serveRoundTripUptoCard : Claim7 := { stood := { row := serveRoundTripUptoRow, standIns := [], harness := (true, "48280b222472d7b7f0fa57d8329b1f8c096e96f1e9ea6cec31d43fdf3de5b6e4"), looks := false }, kinds := [], alts := [], laidByText := true, laidKinds := [.data, .data], laidTests := true, laidLooks := .later }
def ServeRoundTripUptoCardSaid : Prop := Claim7.holds Tryz.pinned (.plain (OpenSpec.upto serveRoundTripSpec)) serveRoundTripUptoCard

/-- THE SECOND FORM's CARD OF 'geofencelaw21.ServeResponds'. -/
def serveRespondsUptoCard : Claim7 := { stood := { row := serveRespondsUptoRow, standIns := [], harness := (true, "48280b222472d7b7f0fa57d8329b1f8c096e96f1e9ea6cec31d43fdf3de5b6e4"), looks := false }, kinds := [], alts := [], laidByText := true, laidKinds := [.data, .data], laidTests := true, laidLooks := .later }
def ServeRespondsUptoCardSaid : Prop := Claim7.holds Tryz.pinned (.plain (OpenSpec.upto serveRespondsSpec)) serveRespondsUptoCard

/-- THE SECOND FORM's CARD OF 'geofencelaw21.ServeEvents'. -/
def serveEventsUptoCard : Claim7 := { stood := { row := serveEventsUptoRow, standIns := [], harness := (true, "48280b222472d7b7f0fa57d8329b1f8c096e96f1e9ea6cec31d43fdf3de5b6e4"), looks := false }, kinds := [], alts := [], laidByText := true, laidKinds := [.data, .data], laidTests := true, laidLooks := .later }
def ServeEventsUptoCardSaid : Prop := Claim7.holds Tryz.pinned (.plain (OpenSpec.upto serveEventsSpec)) serveEventsUptoCard

/-- THE SECOND FORM's CARD OF 'geofencelaw21.ServeClassifies'. -/
def serveClassifiesUptoCard : Claim7 := { stood := { row := serveClassifiesUptoRow, standIns := [], harness := (true, "48280b222472d7b7f0fa57d8329b1f8c096e96f1e9ea6cec31d43fdf3de5b6e4"), looks := false }, kinds := [], alts := [], laidByText := true, laidKinds := [.data, .data], laidTests := true, laidLooks := .later }
def ServeClassifiesUptoCardSaid : Prop := Claim7.holds Tryz.pinned (.plain (OpenSpec.upto serveClassifiesSpec)) serveClassifiesUptoCard

/-- THE SECOND FORM's CARD OF 'geofencelaw21.ServeIsOblivious'. -/
def serveIsObliviousUptoCard : Claim7 := { stood := { row := serveIsObliviousUptoRow, standIns := [], harness := (true, "48280b222472d7b7f0fa57d8329b1f8c096e96f1e9ea6cec31d43fdf3de5b6e4"), looks := false }, kinds := [], alts := [], laidByText := true, laidKinds := [.data, .data], laidTests := true, laidLooks := .later }
def ServeIsObliviousUptoCardSaid : Prop := Claim7.holds Tryz.pinned (.plain (OpenSpec.upto serveIsObliviousSpec)) serveIsObliviousUptoCard

/-- THE SECOND FORM's CARD OF 'geofencetop.TopConvex'. -/
def topConvexUptoCard : Claim7 := { stood := { row := topConvexUptoRow, standIns := [], harness := (true, "48280b222472d7b7f0fa57d8329b1f8c096e96f1e9ea6cec31d43fdf3de5b6e4"), looks := false }, kinds := [], alts := [], laidByText := true, laidKinds := [.data, .data], laidTests := true, laidLooks := .later }
def TopConvexUptoCardSaid : Prop := Claim7.holds Tryz.pinned (.plain (OpenSpec.upto topConvexSpec)) topConvexUptoCard

/-- THE SECOND FORM's CARD OF 'geofencetop.TopSingles'. -/
def topSinglesUptoCard : Claim7 := { stood := { row := topSinglesUptoRow, standIns := [], harness := (true, "48280b222472d7b7f0fa57d8329b1f8c096e96f1e9ea6cec31d43fdf3de5b6e4"), looks := false }, kinds := [], alts := [], laidByText := true, laidKinds := [.data, .data], laidTests := true, laidLooks := .later }
def TopSinglesUptoCardSaid : Prop := Claim7.holds Tryz.pinned (.plain (OpenSpec.upto topSinglesSpec)) topSinglesUptoCard

/-- THE SECOND FORM's CARD OF 'geofencetop.TopDenies'. -/
def topDeniesUptoCard : Claim7 := { stood := { row := topDeniesUptoRow, standIns := [], harness := (true, "48280b222472d7b7f0fa57d8329b1f8c096e96f1e9ea6cec31d43fdf3de5b6e4"), looks := false }, kinds := [], alts := [], laidByText := true, laidKinds := [.data, .data], laidTests := true, laidLooks := .later }
def TopDeniesUptoCardSaid : Prop := Claim7.holds Tryz.pinned (.plain (OpenSpec.upto topDeniesSpec)) topDeniesUptoCard
end Rows
end Go.Proofs.YtpnoofphfomjoaaGreatDoor
