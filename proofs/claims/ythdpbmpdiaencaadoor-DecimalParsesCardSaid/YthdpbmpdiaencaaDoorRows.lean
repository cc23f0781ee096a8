/-
  NARROWER THAN 'FOR EVERY INPUT', by the rows' own cells (each row's printed sentence says how): DecimalFormats: laid · DecimalParses: laid · DecimalRoundTrip: laid · DecimalIsCanonical: laid · DecimalDivides: laid · DecimalDigits: laid.
  DERIVED. THE GIVEN ROWS OF THIS SEAT. 6 by the template 'for every input the law returns true; each argument reads behind the call as it read before'; 0 by the template 'total and deterministic' (their statements: YthdpbmpdiaencaaDoorTotals.lean).
  GIVEN WITH THE SEED: the statements are not yours to turn. If you find one false, say at which input.
  Laid BY PROGRAM, IN A SANDBOX (cutbox-rows.mjs): the forced cells as the released guide's own fill.sh prints them over the translation 26cf297191f072d8… (all of the seat's roots in one cut). By AI agents, Wed Nov 11 2026. No macro, syntax, notation, axiom, sorry.
-/
import Derived.Test.YthdpbmpdiaencaaDoorChecked
import GoSem.PinnedTables
import GoSem.Claim
import GoSem.ClaimJoined
import GoSem.ClaimMapViews
import Derived.JoinedTies
import Derived.KernelRfl
namespace Go.Proofs.YthdpbmpdiaencaaDoor
/- THE CELL 'sum', in the pinned program and in every row, IS THE sha256 OF THE DUMP (.gsa) THAT YthdpbmpdiaencaaDoorProg.lean LOADS. Nothing in Lean hashes anything: it is a label: what it is worth is what the hold of that sum in a sandbox is worth. -/
noncomputable def Tryd.pinned : Pinned := { name := "ythdpbmpdiaencaadoor", sum := "26cf297191f072d8d341095cccd8cfb3c8cdededf48d622a94d1f616df1316eb", checked := Tryd.checked }
namespace Rows
def none {H : Type} : Left H := { results := [], args := [] }

/- WHAT THE LISTED PACKAGE-LEVEL VARIABLES READ AS WHEN THE CALL BEGINS. Each datum BY PROGRAM (the guide's laid-datum.mjs) off the statement by which the dump's own 'gosem.cut.vars' lays the variable. In a bare row this is a premise. The card (YthdpbmpdiaencaaDoorCards.lean) ties it to the program's text. -/
def laid_geofence_mask_words {H : Type} : DataW H := .agg [.lit (.int .u64 9223372036854775808), .lit (.int .u64 18446744073709551615)]
def laid_unicode_utf8_acceptRanges {H : Type} : DataW H := .agg [.agg [.lit (.int .u8 128), .lit (.int .u8 191)], .agg [.lit (.int .u8 160), .lit (.int .u8 191)], .agg [.lit (.int .u8 128), .lit (.int .u8 159)], .agg [.lit (.int .u8 144), .lit (.int .u8 191)], .agg [.lit (.int .u8 128), .lit (.int .u8 143)], .agg [.lit (.int .u8 0), .lit (.int .u8 0)], .agg [.lit (.int .u8 0), .lit (.int .u8 0)], .agg [.lit (.int .u8 0), .lit (.int .u8 0)], .agg [.lit (.int .u8 0), .lit (.int .u8 0)], .agg [.lit (.int .u8 0), .lit (.int .u8 0)], .agg [.lit (.int .u8 0), .lit (.int .u8 0)], .agg [.lit (.int .u8 0), .lit (.int .u8 0)], .agg [.lit (.int .u8 0), .lit (.int .u8 0)], .agg [.lit (.int .u8 0), .lit (.int .u8 0)], .agg [.lit (.int .u8 0), .lit (.int .u8 0)], .agg [.lit (.int .u8 0), .lit (.int .u8 0)]]
/-- One of Go's own tables, pinned by name: the form's constant. -/
def laid_unicode_utf8_first : DataW Unit := Go.Pinned.utf8First

/-- 'geofencelaw04.DecimalFormats': WHATEVER THE INPUT: true; the input reads as it did. -/
def decimalFormatsSpec : ChangeSpec := { name := "decimalFormats", fn := fun _ => fun
  | [d] => { results := [.lit (.bool true)], args := [d] }
  | _ => none }
def decimalFormatsRow : OpenClaim := { program := "ythdpbmpdiaencaadoor", sum := "26cf297191f072d8d341095cccd8cfb3c8cdededf48d622a94d1f616df1316eb", func := "geofence/geofencelaw04.DecimalFormats", spec := "decimalFormats", inPlace := ["internal/bytealg.IndexByteString", "internal/bytealg.IndexString", "math/bits.Add64", "math/bits.Sub64"], unfollowed := true, recurses := true, named := ["unicode/utf8.first", "unicode/utf8.acceptRanges", "geofence/mask.words", "math/bits.divideError", "math/bits.overflowError", "internal/bytealg.MaxLen"], apart := false, laid := [("geofence/mask.words", laid_geofence_mask_words), ("unicode/utf8.acceptRanges", laid_unicode_utf8_acceptRanges), ("unicode/utf8.first", laid_unicode_utf8_first)] }
def DecimalFormatsSaid : Prop := decimalFormatsRow.holds Tryd.pinned (OpenSpec.ofChange decimalFormatsSpec)

/-- ITS FALSE NEIGHBOUR: 'it returns false'. Refute it at one input. -/
def decimalFormatsWrong : ChangeSpec := { name := "decimalFormats", fn := fun _ => fun
  | [d] => { results := [.lit (.bool false)], args := [d] }
  | _ => none }
def DecimalFormatsWrongFalsely : Prop := decimalFormatsRow.holds Tryd.pinned (OpenSpec.ofChange decimalFormatsWrong)

/-- 'geofencelaw04.DecimalParses': WHATEVER THE INPUT: true; the input reads as it did. -/
def decimalParsesSpec : ChangeSpec := { name := "decimalParses", fn := fun _ => fun
  | [d1, d2] => { results := [.lit (.bool true)], args := [d1, d2] }
  | _ => none }
def decimalParsesRow : OpenClaim := { program := "ythdpbmpdiaencaadoor", sum := "26cf297191f072d8d341095cccd8cfb3c8cdededf48d622a94d1f616df1316eb", func := "geofence/geofencelaw04.DecimalParses", spec := "decimalParses", inPlace := ["internal/bytealg.IndexByteString", "internal/bytealg.IndexString", "math/bits.Add64", "math/bits.Sub64"], unfollowed := true, recurses := true, named := ["unicode/utf8.first", "unicode/utf8.acceptRanges", "geofence/mask.words", "math/bits.divideError", "math/bits.overflowError", "internal/bytealg.MaxLen"], apart := false, laid := [("geofence/mask.words", laid_geofence_mask_words), ("unicode/utf8.acceptRanges", laid_unicode_utf8_acceptRanges), ("unicode/utf8.first", laid_unicode_utf8_first)] }
def DecimalParsesSaid : Prop := decimalParsesRow.holds Tryd.pinned (OpenSpec.ofChange decimalParsesSpec)

/-- ITS FALSE NEIGHBOUR: 'it returns false'. Refute it at one input. -/
def decimalParsesWrong : ChangeSpec := { name := "decimalParses", fn := fun _ => fun
  | [d1, d2] => { results := [.lit (.bool false)], args := [d1, d2] }
  | _ => none }
def DecimalParsesWrongFalsely : Prop := decimalParsesRow.holds Tryd.pinned (OpenSpec.ofChange decimalParsesWrong)

/-- 'geofencelaw04.DecimalRoundTrip': WHATEVER THE INPUT: true; the input reads as it did. -/
def decimalRoundTripSpec : ChangeSpec := { name := "decimalRoundTrip", fn := fun _ => fun
  | [d] => { results := [.lit (.bool true)], args := [d] }
  | _ => none }
def decimalRoundTripRow : OpenClaim := { program := "ythdpbmpdiaencaadoor", sum := "26cf297191f072d8d341095cccd8cfb3c8cdededf48d622a94d1f616df1316eb", func := "geofence/geofencelaw04.DecimalRoundTrip", spec := "decimalRoundTrip", inPlace := ["internal/bytealg.IndexByteString", "internal/bytealg.IndexString", "math/bits.Add64", "math/bits.Sub64"], unfollowed := true, recurses := true, named := ["unicode/utf8.first", "unicode/utf8.acceptRanges", "geofence/mask.words", "math/bits.divideError", "math/bits.overflowError", "internal/bytealg.MaxLen"], apart := false, laid := [("geofence/mask.words", laid_geofence_mask_words), ("unicode/utf8.acceptRanges", laid_unicode_utf8_acceptRanges), ("unicode/utf8.first", laid_unicode_utf8_first)] }
def DecimalRoundTripSaid : Prop := decimalRoundTripRow.holds Tryd.pinned (OpenSpec.ofChange decimalRoundTripSpec)

/-- ITS FALSE NEIGHBOUR: 'it returns false'. Refute it at one input. -/
def decimalRoundTripWrong : ChangeSpec := { name := "decimalRoundTrip", fn := fun _ => fun
  | [d] => { results := [.lit (.bool false)], args := [d] }
  | _ => none }
def DecimalRoundTripWrongFalsely : Prop := decimalRoundTripRow.holds Tryd.pinned (OpenSpec.ofChange decimalRoundTripWrong)

/-- 'geofencelaw04.DecimalIsCanonical': WHATEVER THE INPUT: true; the input reads as it did. -/
def decimalIsCanonicalSpec : ChangeSpec := { name := "decimalIsCanonical", fn := fun _ => fun
  | [d1, d2] => { results := [.lit (.bool true)], args := [d1, d2] }
  | _ => none }
def decimalIsCanonicalRow : OpenClaim := { program := "ythdpbmpdiaencaadoor", sum := "26cf297191f072d8d341095cccd8cfb3c8cdededf48d622a94d1f616df1316eb", func := "geofence/geofencelaw04.DecimalIsCanonical", spec := "decimalIsCanonical", inPlace := ["internal/bytealg.IndexByteString", "internal/bytealg.IndexString", "math/bits.Add64", "math/bits.Sub64"], unfollowed := true, recurses := true, named := ["unicode/utf8.first", "unicode/utf8.acceptRanges", "geofence/mask.words", "math/bits.divideError", "math/bits.overflowError", "internal/bytealg.MaxLen"], apart := false, laid := [("geofence/mask.words", laid_geofence_mask_words), ("unicode/utf8.acceptRanges", laid_unicode_utf8_acceptRanges), ("unicode/utf8.first", laid_unicode_utf8_first)] }
def DecimalIsCanonicalSaid : Prop := decimalIsCanonicalRow.holds Tryd.pinned (OpenSpec.ofChange decimalIsCanonicalSpec)

/-- ITS FALSE NEIGHBOUR: 'it returns false'. Refute it at one input. -/
def decimalIsCanonicalWrong : ChangeSpec := { name := "decimalIsCanonical", fn := fun _ => fun
  | [d1, d2] => { results := [.lit (.bool false)], args := [d1, d2] }
  | _ => none }
def DecimalIsCanonicalWrongFalsely : Prop := decimalIsCanonicalRow.holds Tryd.pinned (OpenSpec.ofChange decimalIsCanonicalWrong)

/-- 'geofencelaw04.DecimalDivides': WHATEVER THE INPUT: true; the input reads as it did. -/
def decimalDividesSpec : ChangeSpec := { name := "decimalDivides", fn := fun _ => fun
  | [d1, d2] => { results := [.lit (.bool true)], args := [d1, d2] }
  | _ => none }
def decimalDividesRow : OpenClaim := { program := "ythdpbmpdiaencaadoor", sum := "26cf297191f072d8d341095cccd8cfb3c8cdededf48d622a94d1f616df1316eb", func := "geofence/geofencelaw04.DecimalDivides", spec := "decimalDivides", inPlace := ["internal/bytealg.IndexByteString", "internal/bytealg.IndexString", "math/bits.Add64", "math/bits.Sub64"], unfollowed := true, recurses := true, named := ["unicode/utf8.first", "unicode/utf8.acceptRanges", "geofence/mask.words", "math/bits.divideError", "math/bits.overflowError", "internal/bytealg.MaxLen"], apart := false, laid := [("geofence/mask.words", laid_geofence_mask_words), ("unicode/utf8.acceptRanges", laid_unicode_utf8_acceptRanges), ("unicode/utf8.first", laid_unicode_utf8_first)] }
def DecimalDividesSaid : Prop := decimalDividesRow.holds Tryd.pinned (OpenSpec.ofChange decimalDividesSpec)

/-- ITS FALSE NEIGHBOUR: 'it returns false'. Refute it at one input. -/
def decimalDividesWrong : ChangeSpec := { name := "decimalDivides", fn := fun _ => fun
  | [d1, d2] => { results := [.lit (.bool false)], args := [d1, d2] }
  | _ => none }
def DecimalDividesWrongFalsely : Prop := decimalDividesRow.holds Tryd.pinned (OpenSpec.ofChange decimalDividesWrong)

/-- 'geofencelaw04.DecimalDigits': WHATEVER THE INPUT: true; the input reads as it did. -/
def decimalDigitsSpec : ChangeSpec := { name := "decimalDigits", fn := fun _ => fun
  | [d] => { results := [.lit (.bool true)], args := [d] }
  | _ => none }
def decimalDigitsRow : OpenClaim := { program := "ythdpbmpdiaencaadoor", sum := "26cf297191f072d8d341095cccd8cfb3c8cdededf48d622a94d1f616df1316eb", func := "geofence/geofencelaw04.DecimalDigits", spec := "decimalDigits", inPlace := ["internal/bytealg.IndexByteString", "internal/bytealg.IndexString", "math/bits.Add64", "math/bits.Sub64"], unfollowed := true, recurses := true, named := ["unicode/utf8.first", "unicode/utf8.acceptRanges", "geofence/mask.words", "math/bits.divideError", "math/bits.overflowError", "internal/bytealg.MaxLen"], apart := false, laid := [("geofence/mask.words", laid_geofence_mask_words), ("unicode/utf8.acceptRanges", laid_unicode_utf8_acceptRanges), ("unicode/utf8.first", laid_unicode_utf8_first)] }
def DecimalDigitsSaid : Prop := decimalDigitsRow.holds Tryd.pinned (OpenSpec.ofChange decimalDigitsSpec)

/-- ITS FALSE NEIGHBOUR: 'it returns false'. Refute it at one input. -/
def decimalDigitsWrong : ChangeSpec := { name := "decimalDigits", fn := fun _ => fun
  | [d] => { results := [.lit (.bool false)], args := [d] }
  | _ => none }
def DecimalDigitsWrongFalsely : Prop := decimalDigitsRow.holds Tryd.pinned (OpenSpec.ofChange decimalDigitsWrong)

/- THE SECOND FORM. 'bulk': how many values and letters a reading holds, each counted each time it is reached (what is shared counts as often as it is met; a slice's spare places count too). A statement '..UptoSaid' is the law's where the arguments, and the package variables that the reading takes, are together of bulk at most 1048576: NARROWER than '..Said'. Prove '..Said' where nothing that the law and all that it calls make is longer than what came in: it says more and counts as full. Else prove '..UptoSaid'. A law counts once. -/
mutual
def uptoBulk {H : Type} : DataW H → Nat
  | .lit (.string bytes) => bytes.length + 1
  | .lit _ => 1
  | .nil => 1
  | .ptr d => uptoBulk d + 1
  | .slice elems spare => uptoBulkAll elems + uptoBulkAll spare + 1
  | .agg parts => uptoBulkAll parts + 1
  | .iface _ d => uptoBulk d + 1
  | .map entries => uptoBulkEntries entries + 1
  | .held _ => 1
def uptoBulkAll {H : Type} : List (DataW H) → Nat
  | [] => 0
  | d :: r => uptoBulk d + uptoBulkAll r
def uptoBulkEntries {H : Type} : List (Lit × DataW H) → Nat
  | [] => 0
  | x :: r => uptoBulkEntry x + uptoBulkEntries r
def uptoBulkEntry {H : Type} : Lit × DataW H → Nat
  | (.string bytes, d) => bytes.length + uptoBulk d + 1
  | (_, d) => uptoBulk d + 1
 end
def uptoSmall : (H : Type) → List (DataW H) → Bool := fun _ ds => decide (uptoBulkAll ds ≤ 1048576)
def OpenSpec.upto (s : _root_.Go.ChangeSpec) : _root_.Go.OpenSpec := { _root_.Go.OpenSpec.ofChange s with cond := some uptoSmall }

/-- 'geofencelaw04.DecimalFormats', WHERE WHAT IT READS IS OF BULK AT MOST 1048576: true; the input reads as it did. -/
def decimalFormatsUptoRow : OpenClaim := { program := "ythdpbmpdiaencaadoor", sum := "26cf297191f072d8d341095cccd8cfb3c8cdededf48d622a94d1f616df1316eb", func := "geofence/geofencelaw04.DecimalFormats", spec := "decimalFormats", inPlace := ["internal/bytealg.IndexByteString", "internal/bytealg.IndexString", "math/bits.Add64", "math/bits.Sub64"], unfollowed := true, recurses := true, named := ["unicode/utf8.first", "unicode/utf8.acceptRanges", "geofence/mask.words", "math/bits.divideError", "math/bits.overflowError", "internal/bytealg.MaxLen"], apart := false, laid := [("geofence/mask.words", laid_geofence_mask_words), ("unicode/utf8.acceptRanges", laid_unicode_utf8_acceptRanges), ("unicode/utf8.first", laid_unicode_utf8_first)], narrowed := true }
def DecimalFormatsUptoSaid : Prop := decimalFormatsUptoRow.holds Tryd.pinned (OpenSpec.upto decimalFormatsSpec)

/-- 'geofencelaw04.DecimalParses', WHERE WHAT IT READS IS OF BULK AT MOST 1048576: true; the input reads as it did. -/
def decimalParsesUptoRow : OpenClaim := { program := "ythdpbmpdiaencaadoor", sum := "26cf297191f072d8d341095cccd8cfb3c8cdededf48d622a94d1f616df1316eb", func := "geofence/geofencelaw04.DecimalParses", spec := "decimalParses", inPlace := ["internal/bytealg.IndexByteString", "internal/bytealg.IndexString", "math/bits.Add64", "math/bits.Sub64"], unfollowed := true, recurses := true, named := ["unicode/utf8.first", "unicode/utf8.acceptRanges", "geofence/mask.words", "math/bits.divideError", "math/bits.overflowError", "internal/bytealg.MaxLen"], apart := false, laid := [("geofence/mask.words", laid_geofence_mask_words), ("unicode/utf8.acceptRanges", laid_unicode_utf8_acceptRanges), ("unicode/utf8.first", laid_unicode_utf8_first)], narrowed := true }
def DecimalParsesUptoSaid : Prop := decimalParsesUptoRow.holds Tryd.pinned (OpenSpec.upto decimalParsesSpec)

/-- 'geofencelaw04.DecimalRoundTrip', WHERE WHAT IT READS IS OF BULK AT MOST 1048576: true; the input reads as it did. -/
def decimalRoundTripUptoRow : OpenClaim := { program := "ythdpbmpdiaencaadoor", sum := "26cf297191f072d8d341095cccd8cfb3c8cdededf48d622a94d1f616df1316eb", func := "geofence/geofencelaw04.DecimalRoundTrip", spec := "decimalRoundTrip", inPlace := ["internal/bytealg.IndexByteString", "internal/bytealg.IndexString", "math/bits.Add64", "math/bits.Sub64"], unfollowed := true, recurses := true, named := ["unicode/utf8.first", "unicode/utf8.acceptRanges", "geofence/mask.words", "math/bits.divideError", "math/bits.overflowError", "internal/bytealg.MaxLen"], apart := false, laid := [("geofence/mask.words", laid_geofence_mask_words), ("unicode/utf8.acceptRanges", laid_unicode_utf8_acceptRanges), ("unicode/utf8.first", laid_unicode_utf8_first)], narrowed := true }
def DecimalRoundTripUptoSaid : Prop := decimalRoundTripUptoRow.holds Tryd.pinned (OpenSpec.upto decimalRoundTripSpec)

/-- 'geofencelaw04.DecimalIsCanonical', WHERE WHAT IT READS IS OF BULK AT MOST 1048576: true; the input reads as it did. -/
def decimalIsCanonicalUptoRow : OpenClaim := { program := "ythdpbmpdiaencaadoor", sum := "26cf297191f072d8d341095cccd8cfb3c8cdededf48d622a94d1f616df1316eb", func := "geofence/geofencelaw04.DecimalIsCanonical", spec := "decimalIsCanonical", inPlace := ["internal/bytealg.IndexByteString", "internal/bytealg.IndexString", "math/bits.Add64", "math/bits.Sub64"], unfollowed := true, recurses := true, named := ["unicode/utf8.first", "unicode/utf8.acceptRanges", "geofence/mask.words", "math/bits.divideError", "math/bits.overflowError", "internal/bytealg.MaxLen"], apart := false, laid := [("geofence/mask.words", laid_geofence_mask_words), ("unicode/utf8.acceptRanges", laid_unicode_utf8_acceptRanges), ("unicode/utf8.first", laid_unicode_utf8_first)], narrowed := true }
def DecimalIsCanonicalUptoSaid : Prop := decimalIsCanonicalUptoRow.holds Tryd.pinned (OpenSpec.upto decimalIsCanonicalSpec)

/-- 'geofencelaw04.DecimalDivides', WHERE WHAT IT READS IS OF BULK AT MOST 1048576: true; the input reads as it did. -/
def decimalDividesUptoRow : OpenClaim := { program := "ythdpbmpdiaencaadoor", sum := "26cf297191f072d8d341095cccd8cfb3c8cdededf48d622a94d1f616df1316eb", func := "geofence/geofencelaw04.DecimalDivides", spec := "decimalDivides", inPlace := ["internal/bytealg.IndexByteString", "internal/bytealg.IndexString", "math/bits.Add64", "math/bits.Sub64"], unfollowed := true, recurses := true, named := ["unicode/utf8.first", "unicode/utf8.acceptRanges", "geofence/mask.words", "math/bits.divideError", "math/bits.overflowError", "internal/bytealg.MaxLen"], apart := false, laid := [("geofence/mask.words", laid_geofence_mask_words), ("unicode/utf8.acceptRanges", laid_unicode_utf8_acceptRanges), ("unicode/utf8.first", laid_unicode_utf8_first)], narrowed := true }
def DecimalDividesUptoSaid : Prop := decimalDividesUptoRow.holds Tryd.pinned (OpenSpec.upto decimalDividesSpec)

/-- 'geofencelaw04.DecimalDigits', WHERE WHAT IT READS IS OF BULK AT MOST 1048576: true; the input reads as it did. -/
def decimalDigitsUptoRow : OpenClaim := { program := "ythdpbmpdiaencaadoor", sum := "26cf297191f072d8d341095cccd8cfb3c8cdededf48d622a94d1f616df1316eb", func := "geofence/geofencelaw04.DecimalDigits", spec := "decimalDigits", inPlace := ["internal/bytealg.IndexByteString", "internal/bytealg.IndexString", "math/bits.Add64", "math/bits.Sub64"], unfollowed := true, recurses := true, named := ["unicode/utf8.first", "unicode/utf8.acceptRanges", "geofence/mask.words", "math/bits.divideError", "math/bits.overflowError", "internal/bytealg.MaxLen"], apart := false, laid := [("geofence/mask.words", laid_geofence_mask_words), ("unicode/utf8.acceptRanges", laid_unicode_utf8_acceptRanges), ("unicode/utf8.first", laid_unicode_utf8_first)], narrowed := true }
def DecimalDigitsUptoSaid : Prop := decimalDigitsUptoRow.holds Tryd.pinned (OpenSpec.upto decimalDigitsSpec)

end Rows
end Go.Proofs.YthdpbmpdiaencaaDoor
