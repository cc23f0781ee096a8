/-
  DERIVED. GIVEN WITH THE SEED: THE CARDS: each row of YtgbimniloabjkaaDoorRows.lean that lists a variable, with what it lists TIED to the program's text (the seventh form; the later family's looks); each row that meets fmt, with fmt's text TOLD by the authors' own Lean function (tested against real Go, not proved from fmt's source: count such statements apart). THE CARD IS WHAT COUNTS. Prove the row's statement (the work); the ties are given (YtgbimniloabjkaaDoorTie.lean); close each card by the builder's one call (the guide's Derived/Test/ToyasCard.lean, 'card_holds'). Laid BY PROGRAM, IN A SANDBOX (cutbox-door.mjs). By AI agents, Wed Nov 11 2026. No macro, syntax, notation, axiom, sorry.
-/
import Derived.Test.YtgbimniloabjkaaDoorRows
import GoSem.ClaimSeven
namespace Go.Proofs.YtgbimniloabjkaaDoor
namespace Rows

/-- THE TIED CARD OF 'geofencelaw19.EngineRanges'. -/
def engineRangesCard : Claim7 := { stood := { row := engineRangesRow, standIns := [], harness := (true, "fec7288a9566dcff9fc7321d611c413daeb338a6d21a2f87393354db9b51f60d"), looks := false }, kinds := [], alts := [], laidByText := true, laidKinds := [.data], laidTests := true, laidLooks := .later }
def EngineRangesCardSaid : Prop := Claim7.holds Tryd.pinned (.plain (OpenSpec.ofChange engineRangesSpec)) engineRangesCard

/-- THE TIED CARD OF 'geofencelaw19.EngineEvents'. -/
def engineEventsCard : Claim7 := { stood := { row := engineEventsRow, standIns := [], harness := (true, "fec7288a9566dcff9fc7321d611c413daeb338a6d21a2f87393354db9b51f60d"), looks := false }, kinds := [], alts := [], laidByText := true, laidKinds := [.data], laidTests := true, laidLooks := .later }
def EngineEventsCardSaid : Prop := Claim7.holds Tryd.pinned (.plain (OpenSpec.ofChange engineEventsSpec)) engineEventsCard

/-- THE TIED CARD OF 'geofencelaw19.EngineIsOblivious'. -/
def engineIsObliviousCard : Claim7 := { stood := { row := engineIsObliviousRow, standIns := [], harness := (true, "fec7288a9566dcff9fc7321d611c413daeb338a6d21a2f87393354db9b51f60d"), looks := false }, kinds := [], alts := [], laidByText := true, laidKinds := [.data], laidTests := true, laidLooks := .later }
def EngineIsObliviousCardSaid : Prop := Claim7.holds Tryd.pinned (.plain (OpenSpec.ofChange engineIsObliviousSpec)) engineIsObliviousCard

/-- THE SECOND FORM's CARD OF 'geofencelaw19.EngineRanges'. -/
def engineRangesUptoCard : Claim7 := { stood := { row := engineRangesUptoRow, standIns := [], harness := (true, "fec7288a9566dcff9fc7321d611c413daeb338a6d21a2f87393354db9b51f60d"), looks := false }, kinds := [], alts := [], laidByText := true, laidKinds := [.data], laidTests := true, laidLooks := .later }
def EngineRangesUptoCardSaid : Prop := Claim7.holds Tryd.pinned (.plain (OpenSpec.upto engineRangesSpec)) engineRangesUptoCard

/-- THE SECOND FORM's CARD OF 'geofencelaw19.EngineEvents'. -/
def engineEventsUptoCard : Claim7 := { stood := { row := engineEventsUptoRow, standIns := [], harness := (true, "fec7288a9566dcff9fc7321d611c413daeb338a6d21a2f87393354db9b51f60d"), looks := false }, kinds := [], alts := [], laidByText := true, laidKinds := [.data], laidTests := true, laidLooks := .later }
def EngineEventsUptoCardSaid : Prop := Claim7.holds Tryd.pinned (.plain (OpenSpec.upto engineEventsSpec)) engineEventsUptoCard

/-- THE SECOND FORM's CARD OF 'geofencelaw19.EngineIsOblivious'. -/
def engineIsObliviousUptoCard : Claim7 := { stood := { row := engineIsObliviousUptoRow, standIns := [], harness := (true, "fec7288a9566dcff9fc7321d611c413daeb338a6d21a2f87393354db9b51f60d"), looks := false }, kinds := [], alts := [], laidByText := true, laidKinds := [.data], laidTests := true, laidLooks := .later }
def EngineIsObliviousUptoCardSaid : Prop := Claim7.holds Tryd.pinned (.plain (OpenSpec.upto engineIsObliviousSpec)) engineIsObliviousUptoCard
end Rows
end Go.Proofs.YtgbimniloabjkaaDoor
