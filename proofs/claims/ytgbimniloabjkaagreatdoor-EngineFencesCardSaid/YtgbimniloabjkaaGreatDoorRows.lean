/-
  NARROWER THAN 'FOR EVERY INPUT', by the rows' own cells (each row's printed sentence says how): EngineAnswers: laid · EngineConvex: laid · EngineFences: laid.
  DERIVED. THE GIVEN ROWS OF THIS SEAT. 3 by the template 'for every input the law returns true; each argument reads behind the call as it read before'; 0 by the template 'total and deterministic' (their statements: YtgbimniloabjkaaGreatDoorTotals.lean).
  GIVEN WITH THE SEED: the statements are not yours to turn. If you find one false, say at which input.
  Laid BY PROGRAM, IN A SANDBOX (cutbox-rows.mjs): the forced cells as the released guide's own fill.sh prints them over the translation 076fb5e8a7814322… (all of the seat's roots in one cut). By AI agents, Wed Nov 11 2026. No macro, syntax, notation, axiom, sorry.
-/
import Derived.Test.YtgbimniloabjkaaGreatDoorChecked
import GoSem.Claim
import GoSem.ClaimJoined
import GoSem.ClaimMapViews
import Derived.JoinedTies
import Derived.KernelRfl
namespace Go.Proofs.YtgbimniloabjkaaGreatDoor
/- THE CELL 'sum', in the pinned program and in every row, IS THE sha256 OF THE DUMP (.gsa) THAT YtgbimniloabjkaaGreatDoorProg.lean LOADS. Nothing in Lean hashes anything: it is a label: what it is worth is what the hold of that sum in a sandbox is worth. -/
noncomputable def Tryz.pinned : Pinned := { name := "ytgbimniloabjkaagreatdoor", sum := "076fb5e8a78143224c055d9cba1ecf11f5d8e0914c18956a8a7f335921834581", checked := Tryz.checked }
namespace Rows
def none {H : Type} : Left H := { results := [], args := [] }

/- WHAT THE LISTED PACKAGE-LEVEL VARIABLES READ AS WHEN THE CALL BEGINS. Each datum BY PROGRAM (the guide's laid-datum.mjs) off the statement by which the dump's own 'gosem.cut.vars' lays the variable. In a bare row this is a premise. The card (YtgbimniloabjkaaGreatDoorCards.lean) ties it to the program's text. -/
def laid_geofence_mask_words {H : Type} : DataW H := .agg [.lit (.int .u64 9223372036854775808), .lit (.int .u64 18446744073709551615)]

/-- 'geofencelaw19.EngineAnswers': WHATEVER THE INPUT: true; the input reads as it did. -/
def engineAnswersSpec : ChangeSpec := { name := "engineAnswers", fn := fun _ => fun
  | [d] => { results := [.lit (.bool true)], args := [d] }
  | _ => none }
def engineAnswersRow : OpenClaim := { program := "ytgbimniloabjkaagreatdoor", sum := "076fb5e8a78143224c055d9cba1ecf11f5d8e0914c18956a8a7f335921834581", func := "geofence/geofencelaw19.EngineAnswers", spec := "engineAnswers", inPlace := ["math/bits.Sub64", "math/bits.Add64"], unfollowed := true, recurses := true, named := ["geofence/mask.words"], apart := false, laid := [("geofence/mask.words", laid_geofence_mask_words)] }
def EngineAnswersSaid : Prop := engineAnswersRow.holds Tryz.pinned (OpenSpec.ofChange engineAnswersSpec)

/-- ITS FALSE NEIGHBOUR: 'it returns false'. Refute it at one input. -/
def engineAnswersWrong : ChangeSpec := { name := "engineAnswers", fn := fun _ => fun
  | [d] => { results := [.lit (.bool false)], args := [d] }
  | _ => none }
def EngineAnswersWrongFalsely : Prop := engineAnswersRow.holds Tryz.pinned (OpenSpec.ofChange engineAnswersWrong)

/-- 'geofencelaw19.EngineConvex': WHATEVER THE INPUT: true; the input reads as it did. -/
def engineConvexSpec : ChangeSpec := { name := "engineConvex", fn := fun _ => fun
  | [d1, d2] => { results := [.lit (.bool true)], args := [d1, d2] }
  | _ => none }
def engineConvexRow : OpenClaim := { program := "ytgbimniloabjkaagreatdoor", sum := "076fb5e8a78143224c055d9cba1ecf11f5d8e0914c18956a8a7f335921834581", func := "geofence/geofencelaw19.EngineConvex", spec := "engineConvex", inPlace := ["math/bits.Sub64", "math/bits.Add64"], unfollowed := true, recurses := true, named := ["geofence/mask.words"], apart := false, laid := [("geofence/mask.words", laid_geofence_mask_words)] }
def EngineConvexSaid : Prop := engineConvexRow.holds Tryz.pinned (OpenSpec.ofChange engineConvexSpec)

/-- ITS FALSE NEIGHBOUR: 'it returns false'. Refute it at one input. -/
def engineConvexWrong : ChangeSpec := { name := "engineConvex", fn := fun _ => fun
  | [d1, d2] => { results := [.lit (.bool false)], args := [d1, d2] }
  | _ => none }
def EngineConvexWrongFalsely : Prop := engineConvexRow.holds Tryz.pinned (OpenSpec.ofChange engineConvexWrong)

/-- 'geofencelaw19.EngineFences': WHATEVER THE INPUT: true; the input reads as it did. -/
def engineFencesSpec : ChangeSpec := { name := "engineFences", fn := fun _ => fun
  | [d1, d2] => { results := [.lit (.bool true)], args := [d1, d2] }
  | _ => none }
def engineFencesRow : OpenClaim := { program := "ytgbimniloabjkaagreatdoor", sum := "076fb5e8a78143224c055d9cba1ecf11f5d8e0914c18956a8a7f335921834581", func := "geofence/geofencelaw19.EngineFences", spec := "engineFences", inPlace := ["math/bits.Sub64", "math/bits.Add64"], unfollowed := true, recurses := true, named := ["geofence/mask.words"], apart := false, laid := [("geofence/mask.words", laid_geofence_mask_words)] }
def EngineFencesSaid : Prop := engineFencesRow.holds Tryz.pinned (OpenSpec.ofChange engineFencesSpec)

/-- ITS FALSE NEIGHBOUR: 'it returns false'. Refute it at one input. -/
def engineFencesWrong : ChangeSpec := { name := "engineFences", fn := fun _ => fun
  | [d1, d2] => { results := [.lit (.bool false)], args := [d1, d2] }
  | _ => none }
def EngineFencesWrongFalsely : Prop := engineFencesRow.holds Tryz.pinned (OpenSpec.ofChange engineFencesWrong)

/- THE SECOND FORM. 'bulk': how many values and letters a reading holds, each counted each time it is reached (what is shared counts as often as it is met; a slice's spare places count too). A statement '..UptoSaid' is the law's where the arguments, and the package variables that the reading takes, are together of bulk at most 1048576: NARROWER than '..Said'. Prove '..Said' where nothing that the law and all that it calls make is longer than what came in: it says more and counts as full. Else prove '..UptoSaid'. A law counts once. -/
mutual
def uptoBulk {H : Type} : DataW H → Nat
  | .lit (.string bytes) => bytes.length + 1
  | .lit _ => 1
  | .nil => 1
  | .ptr d => uptoBulk d + 1
  | .slice elems spare => uptoBulkAll elems + uptoBulkAll spare + 1
  | .agg parts => uptoBulkAll parts + 1
  | .iface _ d => uptoBulk d + 1
  | .map entries => uptoBulkEntries entries + 1
  | .held _ => 1
def uptoBulkAll {H : Type} : List (DataW H) → Nat
  | [] => 0
  | d :: r => uptoBulk d + uptoBulkAll r
def uptoBulkEntries {H : Type} : List (Lit × DataW H) → Nat
  | [] => 0
  | x :: r => uptoBulkEntry x + uptoBulkEntries r
def uptoBulkEntry {H : Type} : Lit × DataW H → Nat
  | (.string bytes, d) => bytes.length + uptoBulk d + 1
  | (_, d) => uptoBulk d + 1
 end
def uptoSmall : (H : Type) → List (DataW H) → Bool := fun _ ds => decide (uptoBulkAll ds ≤ 1048576)
def OpenSpec.upto (s : _root_.Go.ChangeSpec) : _root_.Go.OpenSpec := { _root_.Go.OpenSpec.ofChange s with cond := some uptoSmall }

/-- 'geofencelaw19.EngineAnswers', WHERE WHAT IT READS IS OF BULK AT MOST 1048576: true; the input reads as it did. -/
def engineAnswersUptoRow : OpenClaim := { program := "ytgbimniloabjkaagreatdoor", sum := "076fb5e8a78143224c055d9cba1ecf11f5d8e0914c18956a8a7f335921834581", func := "geofence/geofencelaw19.EngineAnswers", spec := "engineAnswers", inPlace := ["math/bits.Sub64", "math/bits.Add64"], unfollowed := true, recurses := true, named := ["geofence/mask.words"], apart := false, laid := [("geofence/mask.words", laid_geofence_mask_words)], narrowed := true }
def EngineAnswersUptoSaid : Prop := engineAnswersUptoRow.holds Tryz.pinned (OpenSpec.upto engineAnswersSpec)

/-- 'geofencelaw19.EngineConvex', WHERE WHAT IT READS IS OF BULK AT MOST 1048576: true; the input reads as it did. -/
def engineConvexUptoRow : OpenClaim := { program := "ytgbimniloabjkaagreatdoor", sum := "076fb5e8a78143224c055d9cba1ecf11f5d8e0914c18956a8a7f335921834581", func := "geofence/geofencelaw19.EngineConvex", spec := "engineConvex", inPlace := ["math/bits.Sub64", "math/bits.Add64"], unfollowed := true, recurses := true, named := ["geofence/mask.words"], apart := false, laid := [("geofence/mask.words", laid_geofence_mask_words)], narrowed := true }
def EngineConvexUptoSaid : Prop := engineConvexUptoRow.holds Tryz.pinned (OpenSpec.upto engineConvexSpec)

/-- 'geofencelaw19.EngineFences', WHERE WHAT IT READS IS OF BULK AT MOST 1048576: true; the input reads as it did. -/
def engineFencesUptoRow : OpenClaim := { program := "ytgbimniloabjkaagreatdoor", sum := "076fb5e8a78143224c055d9cba1ecf11f5d8e0914c18956a8a7f335921834581", func := "geofence/geofencelaw19.EngineFences", spec := "engineFences", inPlace := ["math/bits.Sub64", "math/bits.Add64"], unfollowed := true, recurses := true, named := ["geofence/mask.words"], apart := false, laid := [("geofence/mask.words", laid_geofence_mask_words)], narrowed := true }
def EngineFencesUptoSaid : Prop := engineFencesUptoRow.holds Tryz.pinned (OpenSpec.upto engineFencesSpec)

end Rows
end Go.Proofs.YtgbimniloabjkaaGreatDoor
