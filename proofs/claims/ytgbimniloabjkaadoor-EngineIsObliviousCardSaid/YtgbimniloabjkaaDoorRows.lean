/-
  NARROWER THAN 'FOR EVERY INPUT', by the rows' own cells (each row's printed sentence says how): EngineRanges: laid · EngineEvents: laid · EngineIsOblivious: laid.
  DERIVED. THE GIVEN ROWS OF THIS SEAT. 3 by the template 'for every input the law returns true; each argument reads behind the call as it read before'; 0 by the template 'total and deterministic' (their statements: YtgbimniloabjkaaDoorTotals.lean).
  GIVEN WITH THE SEED: the statements are not yours to turn. If you find one false, say at which input.
  Laid BY PROGRAM, IN A SANDBOX (cutbox-rows.mjs): the forced cells as the released guide's own fill.sh prints them over the translation 5f67d16e2714767e… (all of the seat's roots in one cut). By AI agents, Wed Nov 11 2026. No macro, syntax, notation, axiom, sorry.
-/
import Derived.Test.YtgbimniloabjkaaDoorChecked
import GoSem.Claim
import GoSem.ClaimJoined
import GoSem.ClaimMapViews
import Derived.JoinedTies
import Derived.KernelRfl
namespace Go.Proofs.YtgbimniloabjkaaDoor
/- THE CELL 'sum', in the pinned program and in every row, IS THE sha256 OF THE DUMP (.gsa) THAT YtgbimniloabjkaaDoorProg.lean LOADS. Nothing in Lean hashes anything: it is a label: what it is worth is what the hold of that sum in a sandbox is worth. -/
noncomputable def Tryd.pinned : Pinned := { name := "ytgbimniloabjkaadoor", sum := "5f67d16e2714767e3374a130eae7a8a98aaaf18257018f08c5ec36c54cf923ba", checked := Tryd.checked }
namespace Rows
def none {H : Type} : Left H := { results := [], args := [] }

/- WHAT THE LISTED PACKAGE-LEVEL VARIABLES READ AS WHEN THE CALL BEGINS. Each datum BY PROGRAM (the guide's laid-datum.mjs) off the statement by which the dump's own 'gosem.cut.vars' lays the variable. In a bare row this is a premise. The card (YtgbimniloabjkaaDoorCards.lean) ties it to the program's text. -/
def laid_geofence_mask_words {H : Type} : DataW H := .agg [.lit (.int .u64 9223372036854775808), .lit (.int .u64 18446744073709551615)]

/-- 'geofencelaw19.EngineRanges': WHATEVER THE INPUT: true; the input reads as it did. -/
def engineRangesSpec : ChangeSpec := { name := "engineRanges", fn := fun _ => fun
  | [d] => { results := [.lit (.bool true)], args := [d] }
  | _ => none }
def engineRangesRow : OpenClaim := { program := "ytgbimniloabjkaadoor", sum := "5f67d16e2714767e3374a130eae7a8a98aaaf18257018f08c5ec36c54cf923ba", func := "geofence/geofencelaw19.EngineRanges", spec := "engineRanges", inPlace := ["math/bits.Sub64", "math/bits.Add64"], unfollowed := true, recurses := true, named := ["geofence/mask.words"], apart := false, laid := [("geofence/mask.words", laid_geofence_mask_words)] }
def EngineRangesSaid : Prop := engineRangesRow.holds Tryd.pinned (OpenSpec.ofChange engineRangesSpec)

/-- ITS FALSE NEIGHBOUR: 'it returns false'. Refute it at one input. -/
def engineRangesWrong : ChangeSpec := { name := "engineRanges", fn := fun _ => fun
  | [d] => { results := [.lit (.bool false)], args := [d] }
  | _ => none }
def EngineRangesWrongFalsely : Prop := engineRangesRow.holds Tryd.pinned (OpenSpec.ofChange engineRangesWrong)

/-- 'geofencelaw19.EngineEvents': WHATEVER THE INPUT: true; the input reads as it did. -/
def engineEventsSpec : ChangeSpec := { name := "engineEvents", fn := fun _ => fun
  | [d] => { results := [.lit (.bool true)], args := [d] }
  | _ => none }
def engineEventsRow : OpenClaim := { program := "ytgbimniloabjkaadoor", sum := "5f67d16e2714767e3374a130eae7a8a98aaaf18257018f08c5ec36c54cf923ba", func := "geofence/geofencelaw19.EngineEvents", spec := "engineEvents", inPlace := ["math/bits.Sub64", "math/bits.Add64"], unfollowed := true, recurses := true, named := ["geofence/mask.words"], apart := false, laid := [("geofence/mask.words", laid_geofence_mask_words)] }
def EngineEventsSaid : Prop := engineEventsRow.holds Tryd.pinned (OpenSpec.ofChange engineEventsSpec)

/-- ITS FALSE NEIGHBOUR: 'it returns false'. Refute it at one input. -/
def engineEventsWrong : ChangeSpec := { name := "engineEvents", fn := fun _ => fun
  | [d] => { results := [.lit (.bool false)], args := [d] }
  | _ => none }
def EngineEventsWrongFalsely : Prop := engineEventsRow.holds Tryd.pinned (OpenSpec.ofChange engineEventsWrong)

/-- 'geofencelaw19.EngineIsOblivious': WHATEVER THE INPUT: true; the input reads as it did. -/
def engineIsObliviousSpec : ChangeSpec := { name := "engineIsOblivious", fn := fun _ => fun
  | [d1, d2] => { results := [.lit (.bool true)], args := [d1, d2] }
  | _ => none }
def engineIsObliviousRow : OpenClaim := { program := "ytgbimniloabjkaadoor", sum := "5f67d16e2714767e3374a130eae7a8a98aaaf18257018f08c5ec36c54cf923ba", func := "geofence/geofencelaw19.EngineIsOblivious", spec := "engineIsOblivious", inPlace := ["math/bits.Sub64", "math/bits.Add64"], unfollowed := true, recurses := true, named := ["geofence/mask.words"], apart := false, laid := [("geofence/mask.words", laid_geofence_mask_words)] }
def EngineIsObliviousSaid : Prop := engineIsObliviousRow.holds Tryd.pinned (OpenSpec.ofChange engineIsObliviousSpec)

/-- ITS FALSE NEIGHBOUR: 'it returns false'. Refute it at one input. -/
def engineIsObliviousWrong : ChangeSpec := { name := "engineIsOblivious", fn := fun _ => fun
  | [d1, d2] => { results := [.lit (.bool false)], args := [d1, d2] }
  | _ => none }
def EngineIsObliviousWrongFalsely : Prop := engineIsObliviousRow.holds Tryd.pinned (OpenSpec.ofChange engineIsObliviousWrong)

/- THE SECOND FORM. 'bulk': how many values and letters a reading holds, each counted each time it is reached (what is shared counts as often as it is met; a slice's spare places count too). A statement '..UptoSaid' is the law's where the arguments, and the package variables that the reading takes, are together of bulk at most 1048576: NARROWER than '..Said'. Prove '..Said' where nothing that the law and all that it calls make is longer than what came in: it says more and counts as full. Else prove '..UptoSaid'. A law counts once. -/
mutual
def uptoBulk {H : Type} : DataW H → Nat
  | .lit (.string bytes) => bytes.length + 1
  | .lit _ => 1
  | .nil => 1
  | .ptr d => uptoBulk d + 1
  | .slice elems spare => uptoBulkAll elems + uptoBulkAll spare + 1
  | .agg parts => uptoBulkAll parts + 1
  | .iface _ d => uptoBulk d + 1
  | .map entries => uptoBulkEntries entries + 1
  | .held _ => 1
def uptoBulkAll {H : Type} : List (DataW H) → Nat
  | [] => 0
  | d :: r => uptoBulk d + uptoBulkAll r
def uptoBulkEntries {H : Type} : List (Lit × DataW H) → Nat
  | [] => 0
  | x :: r => uptoBulkEntry x + uptoBulkEntries r
def uptoBulkEntry {H : Type} : Lit × DataW H → Nat
  | (.string bytes, d) => bytes.length + uptoBulk d + 1
  | (_, d) => uptoBulk d + 1
 end
def uptoSmall : (H : Type) → List (DataW H) → Bool := fun _ ds => decide (uptoBulkAll ds ≤ 1048576)
def OpenSpec.upto (s : _root_.Go.ChangeSpec) : _root_.Go.OpenSpec := { _root_.Go.OpenSpec.ofChange s with cond := some uptoSmall }

/-- 'geofencelaw19.EngineRanges', WHERE WHAT IT READS IS OF BULK AT MOST 1048576: true; the input reads as it did. -/
def engineRangesUptoRow : OpenClaim := { program := "ytgbimniloabjkaadoor", sum := "5f67d16e2714767e3374a130eae7a8a98aaaf18257018f08c5ec36c54cf923ba", func := "geofence/geofencelaw19.EngineRanges", spec := "engineRanges", inPlace := ["math/bits.Sub64", "math/bits.Add64"], unfollowed := true, recurses := true, named := ["geofence/mask.words"], apart := false, laid := [("geofence/mask.words", laid_geofence_mask_words)], narrowed := true }
def EngineRangesUptoSaid : Prop := engineRangesUptoRow.holds Tryd.pinned (OpenSpec.upto engineRangesSpec)

/-- 'geofencelaw19.EngineEvents', WHERE WHAT IT READS IS OF BULK AT MOST 1048576: true; the input reads as it did. -/
def engineEventsUptoRow : OpenClaim := { program := "ytgbimniloabjkaadoor", sum := "5f67d16e2714767e3374a130eae7a8a98aaaf18257018f08c5ec36c54cf923ba", func := "geofence/geofencelaw19.EngineEvents", spec := "engineEvents", inPlace := ["math/bits.Sub64", "math/bits.Add64"], unfollowed := true, recurses := true, named := ["geofence/mask.words"], apart := false, laid := [("geofence/mask.words", laid_geofence_mask_words)], narrowed := true }
def EngineEventsUptoSaid : Prop := engineEventsUptoRow.holds Tryd.pinned (OpenSpec.upto engineEventsSpec)

/-- 'geofencelaw19.EngineIsOblivious', WHERE WHAT IT READS IS OF BULK AT MOST 1048576: true; the input reads as it did. -/
def engineIsObliviousUptoRow : OpenClaim := { program := "ytgbimniloabjkaadoor", sum := "5f67d16e2714767e3374a130eae7a8a98aaaf18257018f08c5ec36c54cf923ba", func := "geofence/geofencelaw19.EngineIsOblivious", spec := "engineIsOblivious", inPlace := ["math/bits.Sub64", "math/bits.Add64"], unfollowed := true, recurses := true, named := ["geofence/mask.words"], apart := false, laid := [("geofence/mask.words", laid_geofence_mask_words)], narrowed := true }
def EngineIsObliviousUptoSaid : Prop := engineIsObliviousUptoRow.holds Tryd.pinned (OpenSpec.upto engineIsObliviousSpec)

end Rows
end Go.Proofs.YtgbimniloabjkaaDoor
