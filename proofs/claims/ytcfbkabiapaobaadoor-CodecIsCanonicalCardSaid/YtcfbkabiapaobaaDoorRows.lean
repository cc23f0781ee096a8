/-
  NARROWER THAN 'FOR EVERY INPUT', by the rows' own cells (each row's printed sentence says how): CodecDecodes: laid · CodecRoundTrip: laid · CodecIsCanonical: laid.
  DERIVED. THE GIVEN ROWS OF THIS SEAT. 3 by the template 'for every input the law returns true; each argument reads behind the call as it read before'; 0 by the template 'total and deterministic' (their statements: YtcfbkabiapaobaaDoorTotals.lean).
  GIVEN WITH THE SEED: the statements are not yours to turn. If you find one false, say at which input.
  Laid BY PROGRAM, IN A SANDBOX (cutbox-rows.mjs): the forced cells as the released guide's own fill.sh prints them over the translation 76012b1adcd623fb… (all of the seat's roots in one cut). By AI agents, Wed Nov 11 2026. No macro, syntax, notation, axiom, sorry.
-/
import Derived.Test.YtcfbkabiapaobaaDoorChecked
import GoSem.Claim
import GoSem.ClaimJoined
import GoSem.ClaimMapViews
import Derived.JoinedTies
import Derived.KernelRfl
namespace Go.Proofs.YtcfbkabiapaobaaDoor
/- THE CELL 'sum', in the pinned program and in every row, IS THE sha256 OF THE DUMP (.gsa) THAT YtcfbkabiapaobaaDoorProg.lean LOADS. Nothing in Lean hashes anything: it is a label: what it is worth is what the hold of that sum in a sandbox is worth. -/
noncomputable def Tryd.pinned : Pinned := { name := "ytcfbkabiapaobaadoor", sum := "76012b1adcd623fb5b11960a9b5c10edb2ac43fddd6b30e097a37c20a88f2b71", checked := Tryd.checked }
namespace Rows
def none {H : Type} : Left H := { results := [], args := [] }

/- WHAT THE LISTED PACKAGE-LEVEL VARIABLES READ AS WHEN THE CALL BEGINS. Each datum BY PROGRAM (the guide's laid-datum.mjs) off the statement by which the dump's own 'gosem.cut.vars' lays the variable. In a bare row this is a premise. The card (YtcfbkabiapaobaaDoorCards.lean) ties it to the program's text. -/
def laid_geofence_header_fixed {H : Type} : DataW H := .agg [.lit (.int .i64 0), .lit (.int .i64 3), .lit (.int .i64 4), .lit (.int .i64 1), .lit (.int .i64 1), .lit (.int .i64 0)]

/-- 'geofencelaw18.CodecDecodes': WHATEVER THE INPUT: true; the input reads as it did. -/
def codecDecodesSpec : ChangeSpec := { name := "codecDecodes", fn := fun _ => fun
  | [d] => { results := [.lit (.bool true)], args := [d] }
  | _ => none }
def codecDecodesRow : OpenClaim := { program := "ytcfbkabiapaobaadoor", sum := "76012b1adcd623fb5b11960a9b5c10edb2ac43fddd6b30e097a37c20a88f2b71", func := "geofence/geofencelaw18.CodecDecodes", spec := "codecDecodes", unfollowed := true, recurses := true, named := ["geofence/header.fixed"], apart := false, laid := [("geofence/header.fixed", laid_geofence_header_fixed)] }
def CodecDecodesSaid : Prop := codecDecodesRow.holds Tryd.pinned (OpenSpec.ofChange codecDecodesSpec)

/-- ITS FALSE NEIGHBOUR: 'it returns false'. Refute it at one input. -/
def codecDecodesWrong : ChangeSpec := { name := "codecDecodes", fn := fun _ => fun
  | [d] => { results := [.lit (.bool false)], args := [d] }
  | _ => none }
def CodecDecodesWrongFalsely : Prop := codecDecodesRow.holds Tryd.pinned (OpenSpec.ofChange codecDecodesWrong)

/-- 'geofencelaw18.CodecRoundTrip': WHATEVER THE INPUT: true; the input reads as it did. -/
def codecRoundTripSpec : ChangeSpec := { name := "codecRoundTrip", fn := fun _ => fun
  | [d] => { results := [.lit (.bool true)], args := [d] }
  | _ => none }
def codecRoundTripRow : OpenClaim := { program := "ytcfbkabiapaobaadoor", sum := "76012b1adcd623fb5b11960a9b5c10edb2ac43fddd6b30e097a37c20a88f2b71", func := "geofence/geofencelaw18.CodecRoundTrip", spec := "codecRoundTrip", unfollowed := true, recurses := true, named := ["geofence/header.fixed"], apart := false, laid := [("geofence/header.fixed", laid_geofence_header_fixed)] }
def CodecRoundTripSaid : Prop := codecRoundTripRow.holds Tryd.pinned (OpenSpec.ofChange codecRoundTripSpec)

/-- ITS FALSE NEIGHBOUR: 'it returns false'. Refute it at one input. -/
def codecRoundTripWrong : ChangeSpec := { name := "codecRoundTrip", fn := fun _ => fun
  | [d] => { results := [.lit (.bool false)], args := [d] }
  | _ => none }
def CodecRoundTripWrongFalsely : Prop := codecRoundTripRow.holds Tryd.pinned (OpenSpec.ofChange codecRoundTripWrong)

/-- 'geofencelaw18.CodecIsCanonical': WHATEVER THE INPUT: true; the input reads as it did. -/
def codecIsCanonicalSpec : ChangeSpec := { name := "codecIsCanonical", fn := fun _ => fun
  | [d1, d2] => { results := [.lit (.bool true)], args := [d1, d2] }
  | _ => none }
def codecIsCanonicalRow : OpenClaim := { program := "ytcfbkabiapaobaadoor", sum := "76012b1adcd623fb5b11960a9b5c10edb2ac43fddd6b30e097a37c20a88f2b71", func := "geofence/geofencelaw18.CodecIsCanonical", spec := "codecIsCanonical", unfollowed := true, recurses := true, named := ["geofence/header.fixed"], apart := false, laid := [("geofence/header.fixed", laid_geofence_header_fixed)] }
def CodecIsCanonicalSaid : Prop := codecIsCanonicalRow.holds Tryd.pinned (OpenSpec.ofChange codecIsCanonicalSpec)

/-- ITS FALSE NEIGHBOUR: 'it returns false'. Refute it at one input. -/
def codecIsCanonicalWrong : ChangeSpec := { name := "codecIsCanonical", fn := fun _ => fun
  | [d1, d2] => { results := [.lit (.bool false)], args := [d1, d2] }
  | _ => none }
def CodecIsCanonicalWrongFalsely : Prop := codecIsCanonicalRow.holds Tryd.pinned (OpenSpec.ofChange codecIsCanonicalWrong)

/- THE SECOND FORM. 'bulk': how many values and letters a reading holds, each counted each time it is reached (what is shared counts as often as it is met; a slice's spare places count too). A statement '..UptoSaid' is the law's where the arguments, and the package variables that the reading takes, are together of bulk at most 1048576: NARROWER than '..Said'. Prove '..Said' where nothing that the law and all that it calls make is longer than what came in: it says more and counts as full. Else prove '..UptoSaid'. A law counts once. -/
mutual
def uptoBulk {H : Type} : DataW H → Nat
  | .lit (.string bytes) => bytes.length + 1
  | .lit _ => 1
  | .nil => 1
  | .ptr d => uptoBulk d + 1
  | .slice elems spare => uptoBulkAll elems + uptoBulkAll spare + 1
  | .agg parts => uptoBulkAll parts + 1
  | .iface _ d => uptoBulk d + 1
  | .map entries => uptoBulkEntries entries + 1
  | .held _ => 1
def uptoBulkAll {H : Type} : List (DataW H) → Nat
  | [] => 0
  | d :: r => uptoBulk d + uptoBulkAll r
def uptoBulkEntries {H : Type} : List (Lit × DataW H) → Nat
  | [] => 0
  | x :: r => uptoBulkEntry x + uptoBulkEntries r
def uptoBulkEntry {H : Type} : Lit × DataW H → Nat
  | (.string bytes, d) => bytes.length + uptoBulk d + 1
  | (_, d) => uptoBulk d + 1
 end
def uptoSmall : (H : Type) → List (DataW H) → Bool := fun _ ds => decide (uptoBulkAll ds ≤ 1048576)
def OpenSpec.upto (s : _root_.Go.ChangeSpec) : _root_.Go.OpenSpec := { _root_.Go.OpenSpec.ofChange s with cond := some uptoSmall }

/-- 'geofencelaw18.CodecDecodes', WHERE WHAT IT READS IS OF BULK AT MOST 1048576: true; the input reads as it did. -/
def codecDecodesUptoRow : OpenClaim := { program := "ytcfbkabiapaobaadoor", sum := "76012b1adcd623fb5b11960a9b5c10edb2ac43fddd6b30e097a37c20a88f2b71", func := "geofence/geofencelaw18.CodecDecodes", spec := "codecDecodes", unfollowed := true, recurses := true, named := ["geofence/header.fixed"], apart := false, laid := [("geofence/header.fixed", laid_geofence_header_fixed)], narrowed := true }
def CodecDecodesUptoSaid : Prop := codecDecodesUptoRow.holds Tryd.pinned (OpenSpec.upto codecDecodesSpec)

/-- 'geofencelaw18.CodecRoundTrip', WHERE WHAT IT READS IS OF BULK AT MOST 1048576: true; the input reads as it did. -/
def codecRoundTripUptoRow : OpenClaim := { program := "ytcfbkabiapaobaadoor", sum := "76012b1adcd623fb5b11960a9b5c10edb2ac43fddd6b30e097a37c20a88f2b71", func := "geofence/geofencelaw18.CodecRoundTrip", spec := "codecRoundTrip", unfollowed := true, recurses := true, named := ["geofence/header.fixed"], apart := false, laid := [("geofence/header.fixed", laid_geofence_header_fixed)], narrowed := true }
def CodecRoundTripUptoSaid : Prop := codecRoundTripUptoRow.holds Tryd.pinned (OpenSpec.upto codecRoundTripSpec)

/-- 'geofencelaw18.CodecIsCanonical', WHERE WHAT IT READS IS OF BULK AT MOST 1048576: true; the input reads as it did. -/
def codecIsCanonicalUptoRow : OpenClaim := { program := "ytcfbkabiapaobaadoor", sum := "76012b1adcd623fb5b11960a9b5c10edb2ac43fddd6b30e097a37c20a88f2b71", func := "geofence/geofencelaw18.CodecIsCanonical", spec := "codecIsCanonical", unfollowed := true, recurses := true, named := ["geofence/header.fixed"], apart := false, laid := [("geofence/header.fixed", laid_geofence_header_fixed)], narrowed := true }
def CodecIsCanonicalUptoSaid : Prop := codecIsCanonicalUptoRow.holds Tryd.pinned (OpenSpec.upto codecIsCanonicalSpec)

end Rows
end Go.Proofs.YtcfbkabiapaobaaDoor
