/-
  DERIVED. GIVEN WITH THE SEED: THE CARDS: each row of YtgbimniloabjkaaGreatDoorRows.lean that lists a variable, with what it lists TIED to the program's text (the seventh form; the later family's looks); each row that meets fmt, with fmt's text TOLD by the authors' own Lean function (tested against real Go, not proved from fmt's source: count such statements apart). THE CARD IS WHAT COUNTS. Prove the row's statement (the work); the ties are given (YtgbimniloabjkaaGreatDoorTie.lean); close each card by the builder's one call (the guide's Derived/Test/ToyasCard.lean, 'card_holds'). Laid BY PROGRAM, IN A SANDBOX (cutbox-door.mjs). By AI agents, Wed Nov 11 2026. No macro, syntax, notation, axiom, sorry.
-/
import Derived.Test.YtgbimniloabjkaaGreatDoorRows
import GoSem.ClaimSeven
namespace Go.Proofs.YtgbimniloabjkaaGreatDoor
namespace Rows

/-- THE TIED CARD OF 'geofencelaw19.EngineAnswers'. -/
def engineAnswersCard : Claim7 := { stood := { row := engineAnswersRow, standIns := [], harness := (true, "ce859e63211c31820b477cb1d284ce321dc90fec293a053c9908fa551df76fed"), looks := false }, kinds := [], alts := [], laidByText := true, laidKinds := [.data], laidTests := true, laidLooks := .later }
def EngineAnswersCardSaid : Prop := Claim7.holds Tryz.pinned (.plain (OpenSpec.ofChange engineAnswersSpec)) engineAnswersCard

/-- THE TIED CARD OF 'geofencelaw19.EngineConvex'. -/
def engineConvexCard : Claim7 := { stood := { row := engineConvexRow, standIns := [], harness := (true, "ce859e63211c31820b477cb1d284ce321dc90fec293a053c9908fa551df76fed"), looks := false }, kinds := [], alts := [], laidByText := true, laidKinds := [.data], laidTests := true, laidLooks := .later }
def EngineConvexCardSaid : Prop := Claim7.holds Tryz.pinned (.plain (OpenSpec.ofChange engineConvexSpec)) engineConvexCard

/-- THE TIED CARD OF 'geofencelaw19.EngineFences'. -/
def engineFencesCard : Claim7 := { stood := { row := engineFencesRow, standIns := [], harness := (true, "ce859e63211c31820b477cb1d284ce321dc90fec293a053c9908fa551df76fed"), looks := false }, kinds := [], alts := [], laidByText := true, laidKinds := [.data], laidTests := true, laidLooks := .later }
def EngineFencesCardSaid : Prop := Claim7.holds Tryz.pinned (.plain (OpenSpec.ofChange engineFencesSpec)) engineFencesCard

/-- THE SECOND FORM's CARD OF 'geofencelaw19.EngineAnswers'. -/
def engineAnswersUptoCard : Claim7 := { stood := { row := engineAnswersUptoRow, standIns := [], harness := (true, "ce859e63211c31820b477cb1d284ce321dc90fec293a053c9908fa551df76fed"), looks := false }, kinds := [], alts := [], laidByText := true, laidKinds := [.data], laidTests := true, laidLooks := .later }
def EngineAnswersUptoCardSaid : Prop := Claim7.holds Tryz.pinned (.plain (OpenSpec.upto engineAnswersSpec)) engineAnswersUptoCard

/-- THE SECOND FORM's CARD OF 'geofencelaw19.EngineConvex'. -/
def engineConvexUptoCard : Claim7 := { stood := { row := engineConvexUptoRow, standIns := [], harness := (true, "ce859e63211c31820b477cb1d284ce321dc90fec293a053c9908fa551df76fed"), looks := false }, kinds := [], alts := [], laidByText := true, laidKinds := [.data], laidTests := true, laidLooks := .later }
def EngineConvexUptoCardSaid : Prop := Claim7.holds Tryz.pinned (.plain (OpenSpec.upto engineConvexSpec)) engineConvexUptoCard

/-- THE SECOND FORM's CARD OF 'geofencelaw19.EngineFences'. -/
def engineFencesUptoCard : Claim7 := { stood := { row := engineFencesUptoRow, standIns := [], harness := (true, "ce859e63211c31820b477cb1d284ce321dc90fec293a053c9908fa551df76fed"), looks := false }, kinds := [], alts := [], laidByText := true, laidKinds := [.data], laidTests := true, laidLooks := .later }
def EngineFencesUptoCardSaid : Prop := Claim7.holds Tryz.pinned (.plain (OpenSpec.upto engineFencesSpec)) engineFencesUptoCard
end Rows
end Go.Proofs.YtgbimniloabjkaaGreatDoor
