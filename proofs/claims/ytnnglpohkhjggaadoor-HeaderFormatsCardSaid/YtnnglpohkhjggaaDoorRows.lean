/-
  NARROWER THAN 'FOR EVERY INPUT', by the rows' own cells (each row's printed sentence says how): HeaderParses: laid · HeaderClassifies: laid · HeaderPrefixes: laid · HeaderLengths: laid · HeaderRoundTrip: laid · HeaderFormats: laid · HeaderIsCanonical: laid.
  DERIVED. THE GIVEN ROWS OF THIS SEAT. 7 by the template 'for every input the law returns true; each argument reads behind the call as it read before'; 0 by the template 'total and deterministic' (their statements: YtnnglpohkhjggaaDoorTotals.lean).
  GIVEN WITH THE SEED: the statements are not yours to turn. If you find one false, say at which input.
  Laid BY PROGRAM, IN A SANDBOX (cutbox-rows.mjs): the forced cells as the released guide's own fill.sh prints them over the translation 6e67f597aa243a17… (all of the seat's roots in one cut). By AI agents, Wed Nov 11 2026. No macro, syntax, notation, axiom, sorry.
-/
import Derived.Test.YtnnglpohkhjggaaDoorChecked
import GoSem.Claim
import GoSem.ClaimJoined
import GoSem.ClaimMapViews
import Derived.JoinedTies
import Derived.KernelRfl
namespace Go.Proofs.YtnnglpohkhjggaaDoor
/- THE CELL 'sum', in the pinned program and in every row, IS THE sha256 OF THE DUMP (.gsa) THAT YtnnglpohkhjggaaDoorProg.lean LOADS. Nothing in Lean hashes anything: it is a label: what it is worth is what the hold of that sum in a sandbox is worth. -/
noncomputable def Tryd.pinned : Pinned := { name := "ytnnglpohkhjggaadoor", sum := "6e67f597aa243a171f6a72e569f516063a9fc069cbb8a5567ee235b015c087e1", checked := Tryd.checked }
namespace Rows
def none {H : Type} : Left H := { results := [], args := [] }

/- WHAT THE LISTED PACKAGE-LEVEL VARIABLES READ AS WHEN THE CALL BEGINS. Each datum BY PROGRAM (the guide's laid-datum.mjs) off the statement by which the dump's own 'gosem.cut.vars' lays the variable. In a bare row this is a premise. The card (YtnnglpohkhjggaaDoorCards.lean) ties it to the program's text. -/
def laid_geofence_header_fixed {H : Type} : DataW H := .agg [.lit (.int .i64 0), .lit (.int .i64 3), .lit (.int .i64 4), .lit (.int .i64 1), .lit (.int .i64 1), .lit (.int .i64 0)]

/-- 'geofencelaw17.HeaderParses': WHATEVER THE INPUT: true; the input reads as it did. -/
def headerParsesSpec : ChangeSpec := { name := "headerParses", fn := fun _ => fun
  | [d] => { results := [.lit (.bool true)], args := [d] }
  | _ => none }
def headerParsesRow : OpenClaim := { program := "ytnnglpohkhjggaadoor", sum := "6e67f597aa243a171f6a72e569f516063a9fc069cbb8a5567ee235b015c087e1", func := "geofence/geofencelaw17.HeaderParses", spec := "headerParses", unfollowed := true, recurses := true, named := ["geofence/header.fixed"], apart := false, laid := [("geofence/header.fixed", laid_geofence_header_fixed)] }
def HeaderParsesSaid : Prop := headerParsesRow.holds Tryd.pinned (OpenSpec.ofChange headerParsesSpec)

/-- ITS FALSE NEIGHBOUR: 'it returns false'. Refute it at one input. -/
def headerParsesWrong : ChangeSpec := { name := "headerParses", fn := fun _ => fun
  | [d] => { results := [.lit (.bool false)], args := [d] }
  | _ => none }
def HeaderParsesWrongFalsely : Prop := headerParsesRow.holds Tryd.pinned (OpenSpec.ofChange headerParsesWrong)

/-- 'geofencelaw17.HeaderClassifies': WHATEVER THE INPUT: true; the input reads as it did. -/
def headerClassifiesSpec : ChangeSpec := { name := "headerClassifies", fn := fun _ => fun
  | [d] => { results := [.lit (.bool true)], args := [d] }
  | _ => none }
def headerClassifiesRow : OpenClaim := { program := "ytnnglpohkhjggaadoor", sum := "6e67f597aa243a171f6a72e569f516063a9fc069cbb8a5567ee235b015c087e1", func := "geofence/geofencelaw17.HeaderClassifies", spec := "headerClassifies", unfollowed := true, recurses := true, named := ["geofence/header.fixed"], apart := false, laid := [("geofence/header.fixed", laid_geofence_header_fixed)] }
def HeaderClassifiesSaid : Prop := headerClassifiesRow.holds Tryd.pinned (OpenSpec.ofChange headerClassifiesSpec)

/-- ITS FALSE NEIGHBOUR: 'it returns false'. Refute it at one input. -/
def headerClassifiesWrong : ChangeSpec := { name := "headerClassifies", fn := fun _ => fun
  | [d] => { results := [.lit (.bool false)], args := [d] }
  | _ => none }
def HeaderClassifiesWrongFalsely : Prop := headerClassifiesRow.holds Tryd.pinned (OpenSpec.ofChange headerClassifiesWrong)

/-- 'geofencelaw17.HeaderPrefixes': WHATEVER THE INPUT: true; the input reads as it did. -/
def headerPrefixesSpec : ChangeSpec := { name := "headerPrefixes", fn := fun _ => fun
  | [d] => { results := [.lit (.bool true)], args := [d] }
  | _ => none }
def headerPrefixesRow : OpenClaim := { program := "ytnnglpohkhjggaadoor", sum := "6e67f597aa243a171f6a72e569f516063a9fc069cbb8a5567ee235b015c087e1", func := "geofence/geofencelaw17.HeaderPrefixes", spec := "headerPrefixes", unfollowed := true, recurses := true, named := ["geofence/header.fixed"], apart := false, laid := [("geofence/header.fixed", laid_geofence_header_fixed)] }
def HeaderPrefixesSaid : Prop := headerPrefixesRow.holds Tryd.pinned (OpenSpec.ofChange headerPrefixesSpec)

/-- ITS FALSE NEIGHBOUR: 'it returns false'. Refute it at one input. -/
def headerPrefixesWrong : ChangeSpec := { name := "headerPrefixes", fn := fun _ => fun
  | [d] => { results := [.lit (.bool false)], args := [d] }
  | _ => none }
def HeaderPrefixesWrongFalsely : Prop := headerPrefixesRow.holds Tryd.pinned (OpenSpec.ofChange headerPrefixesWrong)

/-- 'geofencelaw17.HeaderLengths': WHATEVER THE INPUT: true; the input reads as it did. -/
def headerLengthsSpec : ChangeSpec := { name := "headerLengths", fn := fun _ => fun
  | [d1, d2] => { results := [.lit (.bool true)], args := [d1, d2] }
  | _ => none }
def headerLengthsRow : OpenClaim := { program := "ytnnglpohkhjggaadoor", sum := "6e67f597aa243a171f6a72e569f516063a9fc069cbb8a5567ee235b015c087e1", func := "geofence/geofencelaw17.HeaderLengths", spec := "headerLengths", unfollowed := true, recurses := true, named := ["geofence/header.fixed"], apart := false, laid := [("geofence/header.fixed", laid_geofence_header_fixed)] }
def HeaderLengthsSaid : Prop := headerLengthsRow.holds Tryd.pinned (OpenSpec.ofChange headerLengthsSpec)

/-- ITS FALSE NEIGHBOUR: 'it returns false'. Refute it at one input. -/
def headerLengthsWrong : ChangeSpec := { name := "headerLengths", fn := fun _ => fun
  | [d1, d2] => { results := [.lit (.bool false)], args := [d1, d2] }
  | _ => none }
def HeaderLengthsWrongFalsely : Prop := headerLengthsRow.holds Tryd.pinned (OpenSpec.ofChange headerLengthsWrong)

/-- 'geofencelaw17.HeaderRoundTrip': WHATEVER THE INPUT: true; the input reads as it did. -/
def headerRoundTripSpec : ChangeSpec := { name := "headerRoundTrip", fn := fun _ => fun
  | [d1, d2] => { results := [.lit (.bool true)], args := [d1, d2] }
  | _ => none }
def headerRoundTripRow : OpenClaim := { program := "ytnnglpohkhjggaadoor", sum := "6e67f597aa243a171f6a72e569f516063a9fc069cbb8a5567ee235b015c087e1", func := "geofence/geofencelaw17.HeaderRoundTrip", spec := "headerRoundTrip", unfollowed := true, recurses := true, named := ["geofence/header.fixed"], apart := false, laid := [("geofence/header.fixed", laid_geofence_header_fixed)] }
def HeaderRoundTripSaid : Prop := headerRoundTripRow.holds Tryd.pinned (OpenSpec.ofChange headerRoundTripSpec)

/-- ITS FALSE NEIGHBOUR: 'it returns false'. Refute it at one input. -/
def headerRoundTripWrong : ChangeSpec := { name := "headerRoundTrip", fn := fun _ => fun
  | [d1, d2] => { results := [.lit (.bool false)], args := [d1, d2] }
  | _ => none }
def HeaderRoundTripWrongFalsely : Prop := headerRoundTripRow.holds Tryd.pinned (OpenSpec.ofChange headerRoundTripWrong)

/-- 'geofencelaw17.HeaderFormats': WHATEVER THE INPUT: true; the input reads as it did. -/
def headerFormatsSpec : ChangeSpec := { name := "headerFormats", fn := fun _ => fun
  | [d] => { results := [.lit (.bool true)], args := [d] }
  | _ => none }
def headerFormatsRow : OpenClaim := { program := "ytnnglpohkhjggaadoor", sum := "6e67f597aa243a171f6a72e569f516063a9fc069cbb8a5567ee235b015c087e1", func := "geofence/geofencelaw17.HeaderFormats", spec := "headerFormats", unfollowed := true, recurses := true, named := ["geofence/header.fixed"], apart := false, laid := [("geofence/header.fixed", laid_geofence_header_fixed)] }
def HeaderFormatsSaid : Prop := headerFormatsRow.holds Tryd.pinned (OpenSpec.ofChange headerFormatsSpec)

/-- ITS FALSE NEIGHBOUR: 'it returns false'. Refute it at one input. -/
def headerFormatsWrong : ChangeSpec := { name := "headerFormats", fn := fun _ => fun
  | [d] => { results := [.lit (.bool false)], args := [d] }
  | _ => none }
def HeaderFormatsWrongFalsely : Prop := headerFormatsRow.holds Tryd.pinned (OpenSpec.ofChange headerFormatsWrong)

/-- 'geofencelaw17.HeaderIsCanonical': WHATEVER THE INPUT: true; the input reads as it did. -/
def headerIsCanonicalSpec : ChangeSpec := { name := "headerIsCanonical", fn := fun _ => fun
  | [d] => { results := [.lit (.bool true)], args := [d] }
  | _ => none }
def headerIsCanonicalRow : OpenClaim := { program := "ytnnglpohkhjggaadoor", sum := "6e67f597aa243a171f6a72e569f516063a9fc069cbb8a5567ee235b015c087e1", func := "geofence/geofencelaw17.HeaderIsCanonical", spec := "headerIsCanonical", unfollowed := true, recurses := true, named := ["geofence/header.fixed"], apart := false, laid := [("geofence/header.fixed", laid_geofence_header_fixed)] }
def HeaderIsCanonicalSaid : Prop := headerIsCanonicalRow.holds Tryd.pinned (OpenSpec.ofChange headerIsCanonicalSpec)

/-- ITS FALSE NEIGHBOUR: 'it returns false'. Refute it at one input. -/
def headerIsCanonicalWrong : ChangeSpec := { name := "headerIsCanonical", fn := fun _ => fun
  | [d] => { results := [.lit (.bool false)], args := [d] }
  | _ => none }
def HeaderIsCanonicalWrongFalsely : Prop := headerIsCanonicalRow.holds Tryd.pinned (OpenSpec.ofChange headerIsCanonicalWrong)

/- THE SECOND FORM. 'bulk': how many values and letters a reading holds, each counted each time it is reached (what is shared counts as often as it is met; a slice's spare places count too). A statement '..UptoSaid' is the law's where the arguments, and the package variables that the reading takes, are together of bulk at most 1048576: NARROWER than '..Said'. Prove '..Said' where nothing that the law and all that it calls make is longer than what came in: it says more and counts as full. Else prove '..UptoSaid'. A law counts once. -/
mutual
def uptoBulk {H : Type} : DataW H → Nat
  | .lit (.string bytes) => bytes.length + 1
  | .lit _ => 1
  | .nil => 1
  | .ptr d => uptoBulk d + 1
  | .slice elems spare => uptoBulkAll elems + uptoBulkAll spare + 1
  | .agg parts => uptoBulkAll parts + 1
  | .iface _ d => uptoBulk d + 1
  | .map entries => uptoBulkEntries entries + 1
  | .held _ => 1
def uptoBulkAll {H : Type} : List (DataW H) → Nat
  | [] => 0
  | d :: r => uptoBulk d + uptoBulkAll r
def uptoBulkEntries {H : Type} : List (Lit × DataW H) → Nat
  | [] => 0
  | x :: r => uptoBulkEntry x + uptoBulkEntries r
def uptoBulkEntry {H : Type} : Lit × DataW H → Nat
  | (.string bytes, d) => bytes.length + uptoBulk d + 1
  | (_, d) => uptoBulk d + 1
 end
def uptoSmall : (H : Type) → List (DataW H) → Bool := fun _ ds => decide (uptoBulkAll ds ≤ 1048576)
def OpenSpec.upto (s : _root_.Go.ChangeSpec) : _root_.Go.OpenSpec := { _root_.Go.OpenSpec.ofChange s with cond := some uptoSmall }

/-- 'geofencelaw17.HeaderParses', WHERE WHAT IT READS IS OF BULK AT MOST 1048576: true; the input reads as it did. -/
def headerParsesUptoRow : OpenClaim := { program := "ytnnglpohkhjggaadoor", sum := "6e67f597aa243a171f6a72e569f516063a9fc069cbb8a5567ee235b015c087e1", func := "geofence/geofencelaw17.HeaderParses", spec := "headerParses", unfollowed := true, recurses := true, named := ["geofence/header.fixed"], apart := false, laid := [("geofence/header.fixed", laid_geofence_header_fixed)], narrowed := true }
def HeaderParsesUptoSaid : Prop := headerParsesUptoRow.holds Tryd.pinned (OpenSpec.upto headerParsesSpec)

/-- 'geofencelaw17.HeaderClassifies', WHERE WHAT IT READS IS OF BULK AT MOST 1048576: true; the input reads as it did. -/
def headerClassifiesUptoRow : OpenClaim := { program := "ytnnglpohkhjggaadoor", sum := "6e67f597aa243a171f6a72e569f516063a9fc069cbb8a5567ee235b015c087e1", func := "geofence/geofencelaw17.HeaderClassifies", spec := "headerClassifies", unfollowed := true, recurses := true, named := ["geofence/header.fixed"], apart := false, laid := [("geofence/header.fixed", laid_geofence_header_fixed)], narrowed := true }
def HeaderClassifiesUptoSaid : Prop := headerClassifiesUptoRow.holds Tryd.pinned (OpenSpec.upto headerClassifiesSpec)

/-- 'geofencelaw17.HeaderPrefixes', WHERE WHAT IT READS IS OF BULK AT MOST 1048576: true; the input reads as it did. -/
def headerPrefixesUptoRow : OpenClaim := { program := "ytnnglpohkhjggaadoor", sum := "6e67f597aa243a171f6a72e569f516063a9fc069cbb8a5567ee235b015c087e1", func := "geofence/geofencelaw17.HeaderPrefixes", spec := "headerPrefixes", unfollowed := true, recurses := true, named := ["geofence/header.fixed"], apart := false, laid := [("geofence/header.fixed", laid_geofence_header_fixed)], narrowed := true }
def HeaderPrefixesUptoSaid : Prop := headerPrefixesUptoRow.holds Tryd.pinned (OpenSpec.upto headerPrefixesSpec)

/-- 'geofencelaw17.HeaderLengths', WHERE WHAT IT READS IS OF BULK AT MOST 1048576: true; the input reads as it did. -/
def headerLengthsUptoRow : OpenClaim := { program := "ytnnglpohkhjggaadoor", sum := "6e67f597aa243a171f6a72e569f516063a9fc069cbb8a5567ee235b015c087e1", func := "geofence/geofencelaw17.HeaderLengths", spec := "headerLengths", unfollowed := true, recurses := true, named := ["geofence/header.fixed"], apart := false, laid := [("geofence/header.fixed", laid_geofence_header_fixed)], narrowed := true }
def HeaderLengthsUptoSaid : Prop := headerLengthsUptoRow.holds Tryd.pinned (OpenSpec.upto headerLengthsSpec)

/-- 'geofencelaw17.HeaderRoundTrip', WHERE WHAT IT READS IS OF BULK AT MOST 1048576: true; the input reads as it did. -/
def headerRoundTripUptoRow : OpenClaim := { program := "ytnnglpohkhjggaadoor", sum := "6e67f597aa243a171f6a72e569f516063a9fc069cbb8a5567ee235b015c087e1", func := "geofence/geofencelaw17.HeaderRoundTrip", spec := "headerRoundTrip", unfollowed := true, recurses := true, named := ["geofence/header.fixed"], apart := false, laid := [("geofence/header.fixed", laid_geofence_header_fixed)], narrowed := true }
def HeaderRoundTripUptoSaid : Prop := headerRoundTripUptoRow.holds Tryd.pinned (OpenSpec.upto headerRoundTripSpec)

/-- 'geofencelaw17.HeaderFormats', WHERE WHAT IT READS IS OF BULK AT MOST 1048576: true; the input reads as it did. -/
def headerFormatsUptoRow : OpenClaim := { program := "ytnnglpohkhjggaadoor", sum := "6e67f597aa243a171f6a72e569f516063a9fc069cbb8a5567ee235b015c087e1", func := "geofence/geofencelaw17.HeaderFormats", spec := "headerFormats", unfollowed := true, recurses := true, named := ["geofence/header.fixed"], apart := false, laid := [("geofence/header.fixed", laid_geofence_header_fixed)], narrowed := true }
def HeaderFormatsUptoSaid : Prop := headerFormatsUptoRow.holds Tryd.pinned (OpenSpec.upto headerFormatsSpec)

/-- 'geofencelaw17.HeaderIsCanonical', WHERE WHAT IT READS IS OF BULK AT MOST 1048576: true; the input reads as it did. -/
def headerIsCanonicalUptoRow : OpenClaim := { program := "ytnnglpohkhjggaadoor", sum := "6e67f597aa243a171f6a72e569f516063a9fc069cbb8a5567ee235b015c087e1", func := "geofence/geofencelaw17.HeaderIsCanonical", spec := "headerIsCanonical", unfollowed := true, recurses := true, named := ["geofence/header.fixed"], apart := false, laid := [("geofence/header.fixed", laid_geofence_header_fixed)], narrowed := true }
def HeaderIsCanonicalUptoSaid : Prop := headerIsCanonicalUptoRow.holds Tryd.pinned (OpenSpec.upto headerIsCanonicalSpec)

end Rows
end Go.Proofs.YtnnglpohkhjggaaDoor
