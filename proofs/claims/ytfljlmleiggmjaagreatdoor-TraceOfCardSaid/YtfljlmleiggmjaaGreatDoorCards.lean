/-
  DERIVED. GIVEN WITH THE SEED: THE CARDS: each row of YtfljlmleiggmjaaGreatDoorRows.lean that lists a variable, with what it lists TIED to the program's text (the seventh form; the later family's looks); each row that meets fmt, with fmt's text TOLD by the authors' own Lean function (tested against real Go, not proved from fmt's source: count such statements apart). THE CARD IS WHAT COUNTS. Prove the row's statement (the work); the ties are given (YtfljlmleiggmjaaGreatDoorTie.lean); close each card by the builder's one call (the guide's Derived/Test/ToyasCard.lean, 'card_holds'). Laid BY PROGRAM, IN A SANDBOX (cutbox-door.mjs). By AI agents, Wed Nov 11 2026. No macro, syntax, notation, axiom, sorry.
-/
import Derived.Test.YtfljlmleiggmjaaGreatDoorRows
import GoSem.ClaimSeven
namespace Go.Proofs.YtfljlmleiggmjaaGreatDoor
namespace Rows

/-- THE TIED CARD OF 'geofencelaw22.TraceExpects'. -/
def traceExpectsCard : Claim7 := { stood := { row := traceExpectsRow, standIns := [], harness := (true, "c99c9cf67136c0560a3a9b95a2ba605b015184cdb081e522d01b844e3f95aa40"), looks := false }, kinds := [], alts := [], laidByText := true, laidKinds := [.data, .data, .data, .data, .data], laidTests := true, laidLooks := .later }
def TraceExpectsCardSaid : Prop := Claim7.holds Tryz.pinned (.plain (OpenSpec.ofChange traceExpectsSpec)) traceExpectsCard

/-- THE TIED CARD OF 'geofencelaw22.TraceChecks'. -/
def traceChecksCard : Claim7 := { stood := { row := traceChecksRow, standIns := [], harness := (true, "c99c9cf67136c0560a3a9b95a2ba605b015184cdb081e522d01b844e3f95aa40"), looks := false }, kinds := [], alts := [], laidByText := true, laidKinds := [.data, .data, .data, .data, .data], laidTests := true, laidLooks := .later }
def TraceChecksCardSaid : Prop := Claim7.holds Tryz.pinned (.plain (OpenSpec.ofChange traceChecksSpec)) traceChecksCard

/-- THE TIED CARD OF 'geofencelaw22.TraceFormats'. -/
def traceFormatsCard : Claim7 := { stood := { row := traceFormatsRow, standIns := [], harness := (true, "c99c9cf67136c0560a3a9b95a2ba605b015184cdb081e522d01b844e3f95aa40"), looks := false }, kinds := [], alts := [], laidByText := true, laidKinds := [.data, .data, .data, .data, .data], laidTests := true, laidLooks := .later }
def TraceFormatsCardSaid : Prop := Claim7.holds Tryz.pinned (.plain (OpenSpec.ofChange traceFormatsSpec)) traceFormatsCard

/-- THE TIED CARD OF 'geofencelaw22.TraceCounts'. -/
def traceCountsCard : Claim7 := { stood := { row := traceCountsRow, standIns := [], harness := (true, "c99c9cf67136c0560a3a9b95a2ba605b015184cdb081e522d01b844e3f95aa40"), looks := false }, kinds := [], alts := [], laidByText := true, laidKinds := [.data, .data, .data, .data, .data], laidTests := true, laidLooks := .later }
def TraceCountsCardSaid : Prop := Claim7.holds Tryz.pinned (.plain (OpenSpec.ofChange traceCountsSpec)) traceCountsCard

/-- THE TIED CARD OF 'geofencelaw22.TraceOf'. -/
def traceOfCard : Claim7 := { stood := { row := traceOfRow, standIns := [], harness := (true, "c99c9cf67136c0560a3a9b95a2ba605b015184cdb081e522d01b844e3f95aa40"), looks := false }, kinds := [], alts := [], laidByText := true, laidKinds := [.data, .data, .data, .data, .data], laidTests := true, laidLooks := .later }
def TraceOfCardSaid : Prop := Claim7.holds Tryz.pinned (.plain (OpenSpec.ofChange traceOfSpec)) traceOfCard

/-- THE TIED CARD OF 'geofencelaw22.TraceJoins'. -/
def traceJoinsCard : Claim7 := { stood := { row := traceJoinsRow, standIns := [], harness := (true, "c99c9cf67136c0560a3a9b95a2ba605b015184cdb081e522d01b844e3f95aa40"), looks := false }, kinds := [], alts := [], laidByText := true, laidKinds := [.data, .data, .data, .data, .data], laidTests := true, laidLooks := .later }
def TraceJoinsCardSaid : Prop := Claim7.holds Tryz.pinned (.plain (OpenSpec.ofChange traceJoinsSpec)) traceJoinsCard

/-- THE TIED CARD OF 'geofencetop.TopOblivious'. -/
def topObliviousCard : Claim7 := { stood := { row := topObliviousRow, standIns := [], harness := (true, "c99c9cf67136c0560a3a9b95a2ba605b015184cdb081e522d01b844e3f95aa40"), looks := false }, kinds := [], alts := [], laidByText := true, laidKinds := [.data, .data], laidTests := true, laidLooks := .later }
def TopObliviousCardSaid : Prop := Claim7.holds Tryz.pinned (.plain (OpenSpec.ofChange topObliviousSpec)) topObliviousCard

/-- THE SECOND FORM's CARD OF 'geofencelaw22.TraceExpects'. -/
def traceExpectsUptoCard : Claim7 := { stood := { row := traceExpectsUptoRow, standIns := [], harness := (true, "c99c9cf67136c0560a3a9b95a2ba605b015184cdb081e522d01b844e3f95aa40"), looks := false }, kinds := [], alts := [], laidByText := true, laidKinds := [.data, .data, .data, .data, .data], laidTests := true, laidLooks := .later }
def TraceExpectsUptoCardSaid : Prop := Claim7.holds Tryz.pinned (.plain (OpenSpec.upto traceExpectsSpec)) traceExpectsUptoCard

/-- THE SECOND FORM's CARD OF 'geofencelaw22.TraceChecks'. -/
def traceChecksUptoCard : Claim7 := { stood := { row := traceChecksUptoRow, standIns := [], harness := (true, "c99c9cf67136c0560a3a9b95a2ba605b015184cdb081e522d01b844e3f95aa40"), looks := false }, kinds := [], alts := [], laidByText := true, laidKinds := [.data, .data, .data, .data, .data], laidTests := true, laidLooks := .later }
def TraceChecksUptoCardSaid : Prop := Claim7.holds Tryz.pinned (.plain (OpenSpec.upto traceChecksSpec)) traceChecksUptoCard

/-- THE SECOND FORM's CARD OF 'geofencelaw22.TraceFormats'. -/
def traceFormatsUptoCard : Claim7 := { stood := { row := traceFormatsUptoRow, standIns := [], harness := (true, "c99c9cf67136c0560a3a9b95a2ba605b015184cdb081e522d01b844e3f95aa40"), looks := false }, kinds := [], alts := [], laidByText := true, laidKinds := [.data, .data, .data, .data, .data], laidTests := true, laidLooks := .later }
def TraceFormatsUptoCardSaid : Prop := Claim7.holds Tryz.pinned (.plain (OpenSpec.upto traceFormatsSpec)) traceFormatsUptoCard

/-- THE SECOND FORM's CARD OF 'geofencelaw22.TraceCounts'. -/
def traceCountsUptoCard : Claim7 := { stood := { row := traceCountsUptoRow, standIns := [], harness := (true, "c99c9cf67136c0560a3a9b95a2ba605b015184cdb081e522d01b844e3f95aa40"), looks := false }, kinds := [], alts := [], laidByText := true, laidKinds := [.data, .data, .data, .data, .data], laidTests := true, laidLooks := .later }
def TraceCountsUptoCardSaid : Prop := Claim7.holds Tryz.pinned (.plain (OpenSpec.upto traceCountsSpec)) traceCountsUptoCard

/-- THE SECOND FORM's CARD OF 'geofencelaw22.TraceOf'. -/
def traceOfUptoCard : Claim7 := { stood := { row := traceOfUptoRow, standIns := [], harness := (true, "c99c9cf67136c0560a3a9b95a2ba605b015184cdb081e522d01b844e3f95aa40"), looks := false }, kinds := [], alts := [], laidByText := true, laidKinds := [.data, .data, .data, .data, .data], laidTests := true, laidLooks := .later }
def TraceOfUptoCardSaid : Prop := Claim7.holds Tryz.pinned (.plain (OpenSpec.upto traceOfSpec)) traceOfUptoCard

/-- THE SECOND FORM's CARD OF 'geofencelaw22.TraceJoins'. -/
def traceJoinsUptoCard : Claim7 := { stood := { row := traceJoinsUptoRow, standIns := [], harness := (true, "c99c9cf67136c0560a3a9b95a2ba605b015184cdb081e522d01b844e3f95aa40"), looks := false }, kinds := [], alts := [], laidByText := true, laidKinds := [.data, .data, .data, .data, .data], laidTests := true, laidLooks := .later }
def TraceJoinsUptoCardSaid : Prop := Claim7.holds Tryz.pinned (.plain (OpenSpec.upto traceJoinsSpec)) traceJoinsUptoCard

/-- THE SECOND FORM's CARD OF 'geofencetop.TopOblivious'. -/
def topObliviousUptoCard : Claim7 := { stood := { row := topObliviousUptoRow, standIns := [], harness := (true, "c99c9cf67136c0560a3a9b95a2ba605b015184cdb081e522d01b844e3f95aa40"), looks := false }, kinds := [], alts := [], laidByText := true, laidKinds := [.data, .data], laidTests := true, laidLooks := .later }
def TopObliviousUptoCardSaid : Prop := Claim7.holds Tryz.pinned (.plain (OpenSpec.upto topObliviousSpec)) topObliviousUptoCard
end Rows
end Go.Proofs.YtfljlmleiggmjaaGreatDoor
