/-
  NARROWER THAN 'FOR EVERY INPUT', by the rows' own cells (each row's printed sentence says how): ServeHandles: laid · ServeRoundTrip: laid · ServeResponds: laid · ServeEvents: laid · ServeClassifies: laid · ServeIsOblivious: laid · TopConvex: laid · TopSingles: laid · TopDenies: laid.
  DERIVED. THE GIVEN ROWS OF THIS SEAT. 9 by the template 'for every input the law returns true; each argument reads behind the call as it read before'; 0 by the template 'total and deterministic' (their statements: YtpnoofphfomjoaaGreatDoorTotals.lean).
  GIVEN WITH THE SEED: the statements are not yours to turn. If you find one false, say at which input.
  Laid BY PROGRAM, IN A SANDBOX (cutbox-rows.mjs): the forced cells as the released guide's own fill.sh prints them over the translation b3b85bbd40df4c48… (all of the seat's roots in one cut). By AI agents, Wed Nov 11 2026. No macro, syntax, notation, axiom, sorry.
-/
import Derived.Test.YtpnoofphfomjoaaGreatDoorChecked
import GoSem.Claim
import GoSem.ClaimJoined
import GoSem.ClaimMapViews
import Derived.JoinedTies
import Derived.KernelRfl
namespace Go.Proofs.YtpnoofphfomjoaaGreatDoor
/- THE CELL 'sum', in the pinned program and in every row, IS THE sha256 OF THE DUMP (.gsa) THAT YtpnoofphfomjoaaGreatDoorProg.lean LOADS. Nothing in Lean hashes anything: it is a label: what it is worth is what the hold of that sum in a sandbox is worth. -/
noncomputable def Tryz.pinned : Pinned := { name := "ytpnoofphfomjoaagreatdoor", sum := "b3b85bbd40df4c4851e8874f4479d99dc64ae6f4b23705bd780e9d0e70c08bac", checked := Tryz.checked }
namespace Rows
def none {H : Type} : Left H := { results := [], args := [] }

/- WHAT THE LISTED PACKAGE-LEVEL VARIABLES READ AS WHEN THE CALL BEGINS. Each datum BY PROGRAM (the guide's laid-datum.mjs) off the statement by which the dump's own 'gosem.cut.vars' lays the variable. In a bare row this is a premise. The card (YtpnoofphfomjoaaGreatDoorCards.lean) ties it to the program's text. -/
def laid_geofence_mask_words {H : Type} : DataW H := .agg [.lit (.int .u64 9223372036854775808), .lit (.int .u64 18446744073709551615)]
def laid_geofence_header_fixed {H : Type} : DataW H := .agg [.lit (.int .i64 0), .lit (.int .i64 3), .lit (.int .i64 4), .lit (.int .i64 1), .lit (.int .i64 1), .lit (.int .i64 0)]

/-- 'geofencelaw21.ServeHandles': WHATEVER THE INPUT: true; the input reads as it did. -/
def serveHandlesSpec : ChangeSpec := { name := "serveHandles", fn := fun _ => fun
  | [d] => { results := [.lit (.bool true)], args := [d] }
  | _ => none }
def serveHandlesRow : OpenClaim := { program := "ytpnoofphfomjoaagreatdoor", sum := "b3b85bbd40df4c4851e8874f4479d99dc64ae6f4b23705bd780e9d0e70c08bac", func := "geofence/geofencelaw21.ServeHandles", spec := "serveHandles", inPlace := ["math/bits.Sub64", "math/bits.Add64"], unfollowed := true, recurses := true, named := ["geofence/header.fixed", "geofence/mask.words"], apart := false, laid := [("geofence/mask.words", laid_geofence_mask_words), ("geofence/header.fixed", laid_geofence_header_fixed)] }
def ServeHandlesSaid : Prop := serveHandlesRow.holds Tryz.pinned (OpenSpec.ofChange serveHandlesSpec)

/-- ITS FALSE NEIGHBOUR: 'it returns false'. Refute it at one input. -/
def serveHandlesWrong : ChangeSpec := { name := "serveHandles", fn := fun _ => fun
  | [d] => { results := [.lit (.bool false)], args := [d] }
  | _ => none }
def ServeHandlesWrongFalsely : Prop := serveHandlesRow.holds Tryz.pinned (OpenSpec.ofChange serveHandlesWrong)

/-- 'geofencelaw21.ServeRoundTrip': WHATEVER THE INPUT: true; the input reads as it did. -/
def serveRoundTripSpec : ChangeSpec := { name := "serveRoundTrip", fn := fun _ => fun
  | [d] => { results := [.lit (.bool true)], args := [d] }
  | _ => none }
def serveRoundTripRow : OpenClaim := { program := "ytpnoofphfomjoaagreatdoor", sum := "b3b85bbd40df4c4851e8874f4479d99dc64ae6f4b23705bd780e9d0e70c08bac", func := "geofence/geofencelaw21.ServeRoundTrip", spec := "serveRoundTrip", inPlace := ["math/bits.Sub64", "math/bits.Add64"], unfollowed := true, recurses := true, named := ["geofence/header.fixed", "geofence/mask.words"], apart := false, laid := [("geofence/mask.words", laid_geofence_mask_words), ("geofence/header.fixed", laid_geofence_header_fixed)] }
def ServeRoundTripSaid : Prop := serveRoundTripRow.holds Tryz.pinned (OpenSpec.ofChange serveRoundTripSpec)

/-- ITS FALSE NEIGHBOUR: 'it returns false'. Refute it at one input. -/
def serveRoundTripWrong : ChangeSpec := { name := "serveRoundTrip", fn := fun _ => fun
  | [d] => { results := [.lit (.bool false)], args := [d] }
  | _ => none }
def ServeRoundTripWrongFalsely : Prop := serveRoundTripRow.holds Tryz.pinned (OpenSpec.ofChange serveRoundTripWrong)

/-- 'geofencelaw21.ServeResponds': WHATEVER THE INPUT: true; the input reads as it did. -/
def serveRespondsSpec : ChangeSpec := { name := "serveResponds", fn := fun _ => fun
  | [d] => { results := [.lit (.bool true)], args := [d] }
  | _ => none }
def serveRespondsRow : OpenClaim := { program := "ytpnoofphfomjoaagreatdoor", sum := "b3b85bbd40df4c4851e8874f4479d99dc64ae6f4b23705bd780e9d0e70c08bac", func := "geofence/geofencelaw21.ServeResponds", spec := "serveResponds", inPlace := ["math/bits.Sub64", "math/bits.Add64"], unfollowed := true, recurses := true, named := ["geofence/header.fixed", "geofence/mask.words"], apart := false, laid := [("geofence/mask.words", laid_geofence_mask_words), ("geofence/header.fixed", laid_geofence_header_fixed)] }
def ServeRespondsSaid : Prop := serveRespondsRow.holds Tryz.pinned (OpenSpec.ofChange serveRespondsSpec)

/-- ITS FALSE NEIGHBOUR: 'it returns false'. Refute it at one input. -/
def serveRespondsWrong : ChangeSpec := { name := "serveResponds", fn := fun _ => fun
  | [d] => { results := [.lit (.bool false)], args := [d] }
  | _ => none }
def ServeRespondsWrongFalsely : Prop := serveRespondsRow.holds Tryz.pinned (OpenSpec.ofChange serveRespondsWrong)

/-- 'geofencelaw21.ServeEvents': WHATEVER THE INPUT: true; the input reads as it did. -/
def serveEventsSpec : ChangeSpec := { name := "serveEvents", fn := fun _ => fun
  | [d] => { results := [.lit (.bool true)], args := [d] }
  | _ => none }
def serveEventsRow : OpenClaim := { program := "ytpnoofphfomjoaagreatdoor", sum := "b3b85bbd40df4c4851e8874f4479d99dc64ae6f4b23705bd780e9d0e70c08bac", func := "geofence/geofencelaw21.ServeEvents", spec := "serveEvents", inPlace := ["math/bits.Sub64", "math/bits.Add64"], unfollowed := true, recurses := true, named := ["geofence/header.fixed", "geofence/mask.words"], apart := false, laid := [("geofence/mask.words", laid_geofence_mask_words), ("geofence/header.fixed", laid_geofence_header_fixed)] }
def ServeEventsSaid : Prop := serveEventsRow.holds Tryz.pinned (OpenSpec.ofChange serveEventsSpec)

/-- ITS FALSE NEIGHBOUR: 'it returns false'. Refute it at one input. -/
def serveEventsWrong : ChangeSpec := { name := "serveEvents", fn := fun _ => fun
  | [d] => { results := [.lit (.bool false)], args := [d] }
  | _ => none }
def ServeEventsWrongFalsely : Prop := serveEventsRow.holds Tryz.pinned (OpenSpec.ofChange serveEventsWrong)

/-- 'geofencelaw21.ServeClassifies': WHATEVER THE INPUT: true; the input reads as it did. -/
def serveClassifiesSpec : ChangeSpec := { name := "serveClassifies", fn := fun _ => fun
  | [d] => { results := [.lit (.bool true)], args := [d] }
  | _ => none }
def serveClassifiesRow : OpenClaim := { program := "ytpnoofphfomjoaagreatdoor", sum := "b3b85bbd40df4c4851e8874f4479d99dc64ae6f4b23705bd780e9d0e70c08bac", func := "geofence/geofencelaw21.ServeClassifies", spec := "serveClassifies", inPlace := ["math/bits.Sub64", "math/bits.Add64"], unfollowed := true, recurses := true, named := ["geofence/header.fixed", "geofence/mask.words"], apart := false, laid := [("geofence/mask.words", laid_geofence_mask_words), ("geofence/header.fixed", laid_geofence_header_fixed)] }
def ServeClassifiesSaid : Prop := serveClassifiesRow.holds Tryz.pinned (OpenSpec.ofChange serveClassifiesSpec)

/-- ITS FALSE NEIGHBOUR: 'it returns false'. Refute it at one input. -/
def serveClassifiesWrong : ChangeSpec := { name := "serveClassifies", fn := fun _ => fun
  | [d] => { results := [.lit (.bool false)], args := [d] }
  | _ => none }
def ServeClassifiesWrongFalsely : Prop := serveClassifiesRow.holds Tryz.pinned (OpenSpec.ofChange serveClassifiesWrong)

/-- 'geofencelaw21.ServeIsOblivious': WHATEVER THE INPUT: true; the input reads as it did. -/
def serveIsObliviousSpec : ChangeSpec := { name := "serveIsOblivious", fn := fun _ => fun
  | [d1, d2, d3] => { results := [.lit (.bool true)], args := [d1, d2, d3] }
  | _ => none }
def serveIsObliviousRow : OpenClaim := { program := "ytpnoofphfomjoaagreatdoor", sum := "b3b85bbd40df4c4851e8874f4479d99dc64ae6f4b23705bd780e9d0e70c08bac", func := "geofence/geofencelaw21.ServeIsOblivious", spec := "serveIsOblivious", inPlace := ["math/bits.Sub64", "math/bits.Add64"], unfollowed := true, recurses := true, named := ["geofence/header.fixed", "geofence/mask.words"], apart := false, laid := [("geofence/mask.words", laid_geofence_mask_words), ("geofence/header.fixed", laid_geofence_header_fixed)] }
def ServeIsObliviousSaid : Prop := serveIsObliviousRow.holds Tryz.pinned (OpenSpec.ofChange serveIsObliviousSpec)

/-- ITS FALSE NEIGHBOUR: 'it returns false'. Refute it at one input. -/
def serveIsObliviousWrong : ChangeSpec := { name := "serveIsOblivious", fn := fun _ => fun
  | [d1, d2, d3] => { results := [.lit (.bool false)], args := [d1, d2, d3] }
  | _ => none }
def ServeIsObliviousWrongFalsely : Prop := serveIsObliviousRow.holds Tryz.pinned (OpenSpec.ofChange serveIsObliviousWrong)

/-- 'geofencetop.TopConvex': WHATEVER THE INPUT: true; the input reads as it did. -/
def topConvexSpec : ChangeSpec := { name := "topConvex", fn := fun _ => fun
  | [d1, d2, d3] => { results := [.lit (.bool true)], args := [d1, d2, d3] }
  | _ => none }
def topConvexRow : OpenClaim := { program := "ytpnoofphfomjoaagreatdoor", sum := "b3b85bbd40df4c4851e8874f4479d99dc64ae6f4b23705bd780e9d0e70c08bac", func := "geofence/geofencetop.TopConvex", spec := "topConvex", inPlace := ["math/bits.Sub64", "math/bits.Add64"], unfollowed := true, recurses := true, named := ["geofence/header.fixed", "geofence/mask.words"], apart := false, laid := [("geofence/mask.words", laid_geofence_mask_words), ("geofence/header.fixed", laid_geofence_header_fixed)] }
def TopConvexSaid : Prop := topConvexRow.holds Tryz.pinned (OpenSpec.ofChange topConvexSpec)

/-- ITS FALSE NEIGHBOUR: 'it returns false'. Refute it at one input. -/
def topConvexWrong : ChangeSpec := { name := "topConvex", fn := fun _ => fun
  | [d1, d2, d3] => { results := [.lit (.bool false)], args := [d1, d2, d3] }
  | _ => none }
def TopConvexWrongFalsely : Prop := topConvexRow.holds Tryz.pinned (OpenSpec.ofChange topConvexWrong)

/-- 'geofencetop.TopSingles': WHATEVER THE INPUT: true; the input reads as it did. -/
def topSinglesSpec : ChangeSpec := { name := "topSingles", fn := fun _ => fun
  | [d1, d2] => { results := [.lit (.bool true)], args := [d1, d2] }
  | _ => none }
def topSinglesRow : OpenClaim := { program := "ytpnoofphfomjoaagreatdoor", sum := "b3b85bbd40df4c4851e8874f4479d99dc64ae6f4b23705bd780e9d0e70c08bac", func := "geofence/geofencetop.TopSingles", spec := "topSingles", inPlace := ["math/bits.Sub64", "math/bits.Add64"], unfollowed := true, recurses := true, named := ["geofence/header.fixed", "geofence/mask.words"], apart := false, laid := [("geofence/mask.words", laid_geofence_mask_words), ("geofence/header.fixed", laid_geofence_header_fixed)] }
def TopSinglesSaid : Prop := topSinglesRow.holds Tryz.pinned (OpenSpec.ofChange topSinglesSpec)

/-- ITS FALSE NEIGHBOUR: 'it returns false'. Refute it at one input. -/
def topSinglesWrong : ChangeSpec := { name := "topSingles", fn := fun _ => fun
  | [d1, d2] => { results := [.lit (.bool false)], args := [d1, d2] }
  | _ => none }
def TopSinglesWrongFalsely : Prop := topSinglesRow.holds Tryz.pinned (OpenSpec.ofChange topSinglesWrong)

/-- 'geofencetop.TopDenies': WHATEVER THE INPUT: true; the input reads as it did. -/
def topDeniesSpec : ChangeSpec := { name := "topDenies", fn := fun _ => fun
  | [d1, d2, d3] => { results := [.lit (.bool true)], args := [d1, d2, d3] }
  | _ => none }
def topDeniesRow : OpenClaim := { program := "ytpnoofphfomjoaagreatdoor", sum := "b3b85bbd40df4c4851e8874f4479d99dc64ae6f4b23705bd780e9d0e70c08bac", func := "geofence/geofencetop.TopDenies", spec := "topDenies", inPlace := ["math/bits.Sub64", "math/bits.Add64"], unfollowed := true, recurses := true, named := ["geofence/header.fixed", "geofence/mask.words"], apart := false, laid := [("geofence/mask.words", laid_geofence_mask_words), ("geofence/header.fixed", laid_geofence_header_fixed)] }
def TopDeniesSaid : Prop := topDeniesRow.holds Tryz.pinned (OpenSpec.ofChange topDeniesSpec)

/-- ITS FALSE NEIGHBOUR: 'it returns false'. Refute it at one input. -/
def topDeniesWrong : ChangeSpec := { name := "topDenies", fn := fun _ => fun
  | [d1, d2, d3] => { results := [.lit (.bool false)], args := [d1, d2, d3] }
  | _ => none }
def TopDeniesWrongFalsely : Prop := topDeniesRow.holds Tryz.pinned (OpenSpec.ofChange topDeniesWrong)

/- THE SECOND FORM. 'bulk': how many values and letters a reading holds, each counted each time it is reached (what is shared counts as often as it is met; a slice's spare places count too). A statement '..UptoSaid' is the law's where the arguments, and the package variables that the reading takes, are together of bulk at most 1048576: NARROWER than '..Said'. Prove '..Said' where nothing that the law and all that it calls make is longer than what came in: it says more and counts as full. Else prove '..UptoSaid'. A law counts once. -/
mutual
def uptoBulk {H : Type} : DataW H → Nat
  | .lit (.string bytes) => bytes.length + 1
  | .lit _ => 1
  | .nil => 1
  | .ptr d => uptoBulk d + 1
  | .slice elems spare => uptoBulkAll elems + uptoBulkAll spare + 1
  | .agg parts => uptoBulkAll parts + 1
  | .iface _ d => uptoBulk d + 1
  | .map entries => uptoBulkEntries entries + 1
  | .held _ => 1
def uptoBulkAll {H : Type} : List (DataW H) → Nat
  | [] => 0
  | d :: r => uptoBulk d + uptoBulkAll r
def uptoBulkEntries {H : Type} : List (Lit × DataW H) → Nat
  | [] => 0
  | x :: r => uptoBulkEntry x + uptoBulkEntries r
def uptoBulkEntry {H : Type} : Lit × DataW H → Nat
  | (.string bytes, d) => bytes.length + uptoBulk d + 1
  | (_, d) => uptoBulk d + 1
 end
def uptoSmall : (H : Type) → List (DataW H) → Bool := fun _ ds => decide (uptoBulkAll ds ≤ 1048576)
def OpenSpec.upto (s : _root_.Go.ChangeSpec) : _root_.Go.OpenSpec := { _root_.Go.OpenSpec.ofChange s with cond := some uptoSmall }

/-- 'geofencelaw21.ServeHandles', WHERE WHAT IT READS IS OF BULK AT MOST 1048576: true; the input reads as it did. -/
def serveHandlesUptoRow : OpenClaim := { program := "ytpnoofphfomjoaagreatdoor", sum := "b3b85bbd40df4c4851e8874f4479d99dc64ae6f4b23705bd780e9d0e70c08bac", func := "geofence/geofencelaw21.ServeHandles", spec := "serveHandles", inPlace := ["math/bits.Sub64", "math/bits.Add64"], unfollowed := true, recurses := true, named := ["geofence/header.fixed", "geofence/mask.words"], apart := false, laid := [("geofence/mask.words", laid_geofence_mask_words), ("geofence/header.fixed", laid_geofence_header_fixed)], narrowed := true }
def ServeHandlesUptoSaid : Prop := serveHandlesUptoRow.holds Tryz.pinned (OpenSpec.upto serveHandlesSpec)

/-- 'geofencelaw21.ServeRoundTrip', WHERE WHAT IT READS IS OF BULK AT MOST 1048576: true; the input reads as it did. -/
def serveRoundTripUptoRow : OpenClaim := { program := "ytpnoofphfomjoaagreatdoor", sum := "b3b85bbd40df4c4851e8874f4479d99dc64ae6f4b23705bd780e9d0e70c08bac", func := "geofence/geofencelaw21.ServeRoundTrip", spec := "serveRoundTrip", inPlace := ["math/bits.Sub64", "math/bits.Add64"], unfollowed := true, recurses := true, named := ["geofence/header.fixed", "geofence/mask.words"], apart := false, laid := [("geofence/mask.words", laid_geofence_mask_words), ("geofence/header.fixed", laid_geofence_header_fixed)], narrowed := true }
def ServeRoundTripUptoSaid : Prop := serveRoundTripUptoRow.holds Tryz.pinned (OpenSpec.upto serveRoundTripSpec)

/-- 'geofencelaw21.ServeResponds', WHERE WHAT IT READS IS OF BULK AT MOST 1048576: true; the input reads as it did. -/
def serveRespondsUptoRow : OpenClaim := { program := "ytpnoofphfomjoaagreatdoor", sum := "b3b85bbd40df4c4851e8874f4479d99dc64ae6f4b23705bd780e9d0e70c08bac", func := "geofence/geofencelaw21.ServeResponds", spec := "serveResponds", inPlace := ["math/bits.Sub64", "math/bits.Add64"], unfollowed := true, recurses := true, named := ["geofence/header.fixed", "geofence/mask.words"], apart := false, laid := [("geofence/mask.words", laid_geofence_mask_words), ("geofence/header.fixed", laid_geofence_header_fixed)], narrowed := true }
def ServeRespondsUptoSaid : Prop := serveRespondsUptoRow.holds Tryz.pinned (OpenSpec.upto serveRespondsSpec)

/-- 'geofencelaw21.ServeEvents', WHERE WHAT IT READS IS OF BULK AT MOST 1048576: true; the input reads as it did. -/
def serveEventsUptoRow : OpenClaim := { program := "ytpnoofphfomjoaagreatdoor", sum := "b3b85bbd40df4c4851e8874f4479d99dc64ae6f4b23705bd780e9d0e70c08bac", func := "geofence/geofencelaw21.ServeEvents", spec := "serveEvents", inPlace := ["math/bits.Sub64", "math/bits.Add64"], unfollowed := true, recurses := true, named := ["geofence/header.fixed", "geofence/mask.words"], apart := false, laid := [("geofence/mask.words", laid_geofence_mask_words), ("geofence/header.fixed", laid_geofence_header_fixed)], narrowed := true }
def ServeEventsUptoSaid : Prop := serveEventsUptoRow.holds Tryz.pinned (OpenSpec.upto serveEventsSpec)

/-- 'geofencelaw21.ServeClassifies', WHERE WHAT IT READS IS OF BULK AT MOST 1048576: true; the input reads as it did. -/
def serveClassifiesUptoRow : OpenClaim := { program := "ytpnoofphfomjoaagreatdoor", sum := "b3b85bbd40df4c4851e8874f4479d99dc64ae6f4b23705bd780e9d0e70c08bac", func := "geofence/geofencelaw21.ServeClassifies", spec := "serveClassifies", inPlace := ["math/bits.Sub64", "math/bits.Add64"], unfollowed := true, recurses := true, named := ["geofence/header.fixed", "geofence/mask.words"], apart := false, laid := [("geofence/mask.words", laid_geofence_mask_words), ("geofence/header.fixed", laid_geofence_header_fixed)], narrowed := true }
def ServeClassifiesUptoSaid : Prop := serveClassifiesUptoRow.holds Tryz.pinned (OpenSpec.upto serveClassifiesSpec)

/-- 'geofencelaw21.ServeIsOblivious', WHERE WHAT IT READS IS OF BULK AT MOST 1048576: true; the input reads as it did. -/
def serveIsObliviousUptoRow : OpenClaim := { program := "ytpnoofphfomjoaagreatdoor", sum := "b3b85bbd40df4c4851e8874f4479d99dc64ae6f4b23705bd780e9d0e70c08bac", func := "geofence/geofencelaw21.ServeIsOblivious", spec := "serveIsOblivious", inPlace := ["math/bits.Sub64", "math/bits.Add64"], unfollowed := true, recurses := true, named := ["geofence/header.fixed", "geofence/mask.words"], apart := false, laid := [("geofence/mask.words", laid_geofence_mask_words), ("geofence/header.fixed", laid_geofence_header_fixed)], narrowed := true }
def ServeIsObliviousUptoSaid : Prop := serveIsObliviousUptoRow.holds Tryz.pinned (OpenSpec.upto serveIsObliviousSpec)

/-- 'geofencetop.TopConvex', WHERE WHAT IT READS IS OF BULK AT MOST 1048576: true; the input reads as it did. -/
def topConvexUptoRow : OpenClaim := { program := "ytpnoofphfomjoaagreatdoor", sum := "b3b85bbd40df4c4851e8874f4479d99dc64ae6f4b23705bd780e9d0e70c08bac", func := "geofence/geofencetop.TopConvex", spec := "topConvex", inPlace := ["math/bits.Sub64", "math/bits.Add64"], unfollowed := true, recurses := true, named := ["geofence/header.fixed", "geofence/mask.words"], apart := false, laid := [("geofence/mask.words", laid_geofence_mask_words), ("geofence/header.fixed", laid_geofence_header_fixed)], narrowed := true }
def TopConvexUptoSaid : Prop := topConvexUptoRow.holds Tryz.pinned (OpenSpec.upto topConvexSpec)

/-- 'geofencetop.TopSingles', WHERE WHAT IT READS IS OF BULK AT MOST 1048576: true; the input reads as it did. -/
def topSinglesUptoRow : OpenClaim := { program := "ytpnoofphfomjoaagreatdoor", sum := "b3b85bbd40df4c4851e8874f4479d99dc64ae6f4b23705bd780e9d0e70c08bac", func := "geofence/geofencetop.TopSingles", spec := "topSingles", inPlace := ["math/bits.Sub64", "math/bits.Add64"], unfollowed := true, recurses := true, named := ["geofence/header.fixed", "geofence/mask.words"], apart := false, laid := [("geofence/mask.words", laid_geofence_mask_words), ("geofence/header.fixed", laid_geofence_header_fixed)], narrowed := true }
def TopSinglesUptoSaid : Prop := topSinglesUptoRow.holds Tryz.pinned (OpenSpec.upto topSinglesSpec)

/-- 'geofencetop.TopDenies', WHERE WHAT IT READS IS OF BULK AT MOST 1048576: true; the input reads as it did. -/
def topDeniesUptoRow : OpenClaim := { program := "ytpnoofphfomjoaagreatdoor", sum := "b3b85bbd40df4c4851e8874f4479d99dc64ae6f4b23705bd780e9d0e70c08bac", func := "geofence/geofencetop.TopDenies", spec := "topDenies", inPlace := ["math/bits.Sub64", "math/bits.Add64"], unfollowed := true, recurses := true, named := ["geofence/header.fixed", "geofence/mask.words"], apart := false, laid := [("geofence/mask.words", laid_geofence_mask_words), ("geofence/header.fixed", laid_geofence_header_fixed)], narrowed := true }
def TopDeniesUptoSaid : Prop := topDeniesUptoRow.holds Tryz.pinned (OpenSpec.upto topDeniesSpec)

end Rows
end Go.Proofs.YtpnoofphfomjoaaGreatDoor
