/-
  DERIVED. GIVEN WITH THE SEED: THE CARDS: each row of YthnenedoblncjaaGreatDoorRows.lean that lists a variable, with what it lists TIED to the program's text (the seventh form; the later family's looks); each row that meets fmt, with fmt's text TOLD by the authors' own Lean function (tested against real Go, not proved from fmt's source: count such statements apart). THE CARD IS WHAT COUNTS. Prove the row's statement (the work); the ties are given (YthnenedoblncjaaGreatDoorTie.lean); close each card by the builder's one call (the guide's Derived/Test/ToyasCard.lean, 'card_holds'). Laid BY PROGRAM, IN A SANDBOX (cutbox-door.mjs). By AI agents, Wed Nov 11 2026. No macro, syntax, notation, axiom, sorry.
-/
import Derived.Test.YthnenedoblncjaaGreatDoorRows
import GoSem.ClaimSeven
namespace Go.Proofs.YthnenedoblncjaaGreatDoor
namespace Rows

/-- THE TIED CARD OF 'geofencelaw23.ScriptMatchesReference'. -/
def scriptMatchesReferenceCard : Claim7 := { stood := { row := scriptMatchesReferenceRow, standIns := [], harness := (true, "5c616318c4c3146b48d3b2fc1886d34172e2cdd4b5a1794936e7e932928396eb"), looks := false }, kinds := [], alts := [], laidByText := true, laidKinds := [.data, .data, .data, .data, .data, .data, .listed, .data, .pinned], laidTests := true, laidLooks := .later }
def ScriptMatchesReferenceCardSaid : Prop := Claim7.holds Tryz.pinned (.plain (OpenSpec.ofChange scriptMatchesReferenceSpec)) scriptMatchesReferenceCard

/-- THE TIED CARD OF 'geofencelaw23.ScriptBatches'. -/
def scriptBatchesCard : Claim7 := { stood := { row := scriptBatchesRow, standIns := [], harness := (true, "5c616318c4c3146b48d3b2fc1886d34172e2cdd4b5a1794936e7e932928396eb"), looks := false }, kinds := [], alts := [], laidByText := true, laidKinds := [.data, .data, .data, .data, .data, .data, .listed, .data, .pinned], laidTests := true, laidLooks := .later }
def ScriptBatchesCardSaid : Prop := Claim7.holds Tryz.pinned (.plain (OpenSpec.ofChange scriptBatchesSpec)) scriptBatchesCard

/-- THE TIED CARD OF 'geofencelaw23.ScriptPredicates'. -/
def scriptPredicatesCard : Claim7 := { stood := { row := scriptPredicatesRow, standIns := [], harness := (true, "5c616318c4c3146b48d3b2fc1886d34172e2cdd4b5a1794936e7e932928396eb"), looks := false }, kinds := [], alts := [], laidByText := true, laidKinds := [.data, .data, .data, .data, .data, .data, .listed, .data, .pinned], laidTests := true, laidLooks := .later }
def ScriptPredicatesCardSaid : Prop := Claim7.holds Tryz.pinned (.plain (OpenSpec.ofChange scriptPredicatesSpec)) scriptPredicatesCard

/-- THE TIED CARD OF 'geofencelaw23.ScriptRuns'. -/
def scriptRunsCard : Claim7 := { stood := { row := scriptRunsRow, standIns := [], harness := (true, "5c616318c4c3146b48d3b2fc1886d34172e2cdd4b5a1794936e7e932928396eb"), looks := false }, kinds := [], alts := [], laidByText := true, laidKinds := [.data, .data, .data, .data, .data, .data, .listed, .data, .pinned], laidTests := true, laidLooks := .later }
def ScriptRunsCardSaid : Prop := Claim7.holds Tryz.pinned (.plain (OpenSpec.ofChange scriptRunsSpec)) scriptRunsCard

/-- THE TIED CARD OF 'geofencelaw23.ScriptClones'. -/
def scriptClonesCard : Claim7 := { stood := { row := scriptClonesRow, standIns := [], harness := (true, "5c616318c4c3146b48d3b2fc1886d34172e2cdd4b5a1794936e7e932928396eb"), looks := false }, kinds := [], alts := [], laidByText := true, laidKinds := [.data, .data, .data, .data, .data, .data, .listed, .data, .pinned], laidTests := true, laidLooks := .later }
def ScriptClonesCardSaid : Prop := Claim7.holds Tryz.pinned (.plain (OpenSpec.ofChange scriptClonesSpec)) scriptClonesCard

/-- THE TIED CARD OF 'geofencelaw23.ScriptNil'. -/
def scriptNilCard : Claim7 := { stood := { row := scriptNilRow, standIns := [], harness := (true, "5c616318c4c3146b48d3b2fc1886d34172e2cdd4b5a1794936e7e932928396eb"), looks := false }, kinds := [], alts := [], laidByText := true, laidKinds := [.data, .data, .data, .data, .data, .data, .listed, .data, .pinned], laidTests := true, laidLooks := .later }
def ScriptNilCardSaid : Prop := Claim7.holds Tryz.pinned (.plain (OpenSpec.ofChange scriptNilSpec)) scriptNilCard

/-- THE TIED CARD OF 'geofencetop.TopScript'. -/
def topScriptCard : Claim7 := { stood := { row := topScriptRow, standIns := [], harness := (true, "5c616318c4c3146b48d3b2fc1886d34172e2cdd4b5a1794936e7e932928396eb"), looks := false }, kinds := [], alts := [], laidByText := true, laidKinds := [.data, .data, .data, .data, .data, .data, .listed, .data, .pinned], laidTests := true, laidLooks := .later }
def TopScriptCardSaid : Prop := Claim7.holds Tryz.pinned (.plain (OpenSpec.ofChange topScriptSpec)) topScriptCard

/-- THE SECOND FORM's CARD OF 'geofencelaw23.ScriptMatchesReference'. -/
def scriptMatchesReferenceUptoCard : Claim7 := { stood := { row := scriptMatchesReferenceUptoRow, standIns := [], harness := (true, "5c616318c4c3146b48d3b2fc1886d34172e2cdd4b5a1794936e7e932928396eb"), looks := false }, kinds := [], alts := [], laidByText := true, laidKinds := [.data, .data, .data, .data, .data, .data, .listed, .data, .pinned], laidTests := true, laidLooks := .later }
def ScriptMatchesReferenceUptoCardSaid : Prop := Claim7.holds Tryz.pinned (.plain (OpenSpec.upto scriptMatchesReferenceSpec)) scriptMatchesReferenceUptoCard

/-- THE SECOND FORM's CARD OF 'geofencelaw23.ScriptBatches'. -/
def scriptBatchesUptoCard : Claim7 := { stood := { row := scriptBatchesUptoRow, standIns := [], harness := (true, "5c616318c4c3146b48d3b2fc1886d34172e2cdd4b5a1794936e7e932928396eb"), looks := false }, kinds := [], alts := [], laidByText := true, laidKinds := [.data, .data, .data, .data, .data, .data, .listed, .data, .pinned], laidTests := true, laidLooks := .later }
def ScriptBatchesUptoCardSaid : Prop := Claim7.holds Tryz.pinned (.plain (OpenSpec.upto scriptBatchesSpec)) scriptBatchesUptoCard

/-- THE SECOND FORM's CARD OF 'geofencelaw23.ScriptPredicates'. -/
def scriptPredicatesUptoCard : Claim7 := { stood := { row := scriptPredicatesUptoRow, standIns := [], harness := (true, "5c616318c4c3146b48d3b2fc1886d34172e2cdd4b5a1794936e7e932928396eb"), looks := false }, kinds := [], alts := [], laidByText := true, laidKinds := [.data, .data, .data, .data, .data, .data, .listed, .data, .pinned], laidTests := true, laidLooks := .later }
def ScriptPredicatesUptoCardSaid : Prop := Claim7.holds Tryz.pinned (.plain (OpenSpec.upto scriptPredicatesSpec)) scriptPredicatesUptoCard

/-- THE SECOND FORM's CARD OF 'geofencelaw23.ScriptRuns'. -/
def scriptRunsUptoCard : Claim7 := { stood := { row := scriptRunsUptoRow, standIns := [], harness := (true, "5c616318c4c3146b48d3b2fc1886d34172e2cdd4b5a1794936e7e932928396eb"), looks := false }, kinds := [], alts := [], laidByText := true, laidKinds := [.data, .data, .data, .data, .data, .data, .listed, .data, .pinned], laidTests := true, laidLooks := .later }
def ScriptRunsUptoCardSaid : Prop := Claim7.holds Tryz.pinned (.plain (OpenSpec.upto scriptRunsSpec)) scriptRunsUptoCard

/-- THE SECOND FORM's CARD OF 'geofencelaw23.ScriptClones'. -/
def scriptClonesUptoCard : Claim7 := { stood := { row := scriptClonesUptoRow, standIns := [], harness := (true, "5c616318c4c3146b48d3b2fc1886d34172e2cdd4b5a1794936e7e932928396eb"), looks := false }, kinds := [], alts := [], laidByText := true, laidKinds := [.data, .data, .data, .data, .data, .data, .listed, .data, .pinned], laidTests := true, laidLooks := .later }
def ScriptClonesUptoCardSaid : Prop := Claim7.holds Tryz.pinned (.plain (OpenSpec.upto scriptClonesSpec)) scriptClonesUptoCard

/-- THE SECOND FORM's CARD OF 'geofencelaw23.ScriptNil'. -/
def scriptNilUptoCard : Claim7 := { stood := { row := scriptNilUptoRow, standIns := [], harness := (true, "5c616318c4c3146b48d3b2fc1886d34172e2cdd4b5a1794936e7e932928396eb"), looks := false }, kinds := [], alts := [], laidByText := true, laidKinds := [.data, .data, .data, .data, .data, .data, .listed, .data, .pinned], laidTests := true, laidLooks := .later }
def ScriptNilUptoCardSaid : Prop := Claim7.holds Tryz.pinned (.plain (OpenSpec.upto scriptNilSpec)) scriptNilUptoCard

/-- THE SECOND FORM's CARD OF 'geofencetop.TopScript'. -/
def topScriptUptoCard : Claim7 := { stood := { row := topScriptUptoRow, standIns := [], harness := (true, "5c616318c4c3146b48d3b2fc1886d34172e2cdd4b5a1794936e7e932928396eb"), looks := false }, kinds := [], alts := [], laidByText := true, laidKinds := [.data, .data, .data, .data, .data, .data, .listed, .data, .pinned], laidTests := true, laidLooks := .later }
def TopScriptUptoCardSaid : Prop := Claim7.holds Tryz.pinned (.plain (OpenSpec.upto topScriptSpec)) topScriptUptoCard
end Rows
end Go.Proofs.YthnenedoblncjaaGreatDoor
