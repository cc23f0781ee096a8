/-
  NARROWER THAN 'FOR EVERY INPUT', by the rows' own cells (each row's printed sentence says how): TraceExpects: laid · TraceChecks: laid · TraceFormats: laid · TraceCounts: laid · TraceOf: laid · TraceJoins: laid · TopOblivious: laid.
  DERIVED. THE GIVEN ROWS OF THIS SEAT. 7 by the template 'for every input the law returns true; each argument reads behind the call as it read before'; 0 by the template 'total and deterministic' (their statements: YtfljlmleiggmjaaGreatDoorTotals.lean).
  GIVEN WITH THE SEED: the statements are not yours to turn. If you find one false, say at which input.
  Laid BY PROGRAM, IN A SANDBOX (cutbox-rows.mjs): the forced cells as the released guide's own fill.sh prints them over the translation 82c9413b93ceadf0… (all of the seat's roots in one cut). By AI agents, Wed Nov 11 2026. No macro, syntax, notation, axiom, sorry.
-/
import Derived.Test.YtfljlmleiggmjaaGreatDoorChecked
import GoSem.Claim
import GoSem.ClaimJoined
import GoSem.ClaimMapViews
import Derived.JoinedTies
import Derived.KernelRfl
namespace Go.Proofs.YtfljlmleiggmjaaGreatDoor
/- THE CELL 'sum', in the pinned program and in every row, IS THE sha256 OF THE DUMP (.gsa) THAT YtfljlmleiggmjaaGreatDoorProg.lean LOADS. Nothing in Lean hashes anything: it is a label: what it is worth is what the hold of that sum in a sandbox is worth. -/
noncomputable def Tryz.pinned : Pinned := { name := "ytfljlmleiggmjaagreatdoor", sum := "82c9413b93ceadf0a0ce67fbff28d7f87188ceb9e3a683fd419ba257e6f46cc8", checked := Tryz.checked }
namespace Rows
def none {H : Type} : Left H := { results := [], args := [] }

/- WHAT THE LISTED PACKAGE-LEVEL VARIABLES READ AS WHEN THE CALL BEGINS. Each datum BY PROGRAM (the guide's laid-datum.mjs) off the statement by which the dump's own 'gosem.cut.vars' lays the variable. In a bare row this is a premise. The card (YtfljlmleiggmjaaGreatDoorCards.lean) ties it to the program's text. -/
def laid_geofence_mask_words {H : Type} : DataW H := .agg [.lit (.int .u64 9223372036854775808), .lit (.int .u64 18446744073709551615)]
def laid_math_bits_deBruijn32tab {H : Type} : DataW H := .agg [.lit (.int .u8 0), .lit (.int .u8 1), .lit (.int .u8 28), .lit (.int .u8 2), .lit (.int .u8 29), .lit (.int .u8 14), .lit (.int .u8 24), .lit (.int .u8 3), .lit (.int .u8 30), .lit (.int .u8 22), .lit (.int .u8 20), .lit (.int .u8 15), .lit (.int .u8 25), .lit (.int .u8 17), .lit (.int .u8 4), .lit (.int .u8 8), .lit (.int .u8 31), .lit (.int .u8 27), .lit (.int .u8 13), .lit (.int .u8 23), .lit (.int .u8 21), .lit (.int .u8 19), .lit (.int .u8 16), .lit (.int .u8 7), .lit (.int .u8 26), .lit (.int .u8 12), .lit (.int .u8 18), .lit (.int .u8 6), .lit (.int .u8 11), .lit (.int .u8 5), .lit (.int .u8 10), .lit (.int .u8 9)]
def laid_math_bits_deBruijn64tab {H : Type} : DataW H := .agg [.lit (.int .u8 0), .lit (.int .u8 1), .lit (.int .u8 56), .lit (.int .u8 2), .lit (.int .u8 57), .lit (.int .u8 49), .lit (.int .u8 28), .lit (.int .u8 3), .lit (.int .u8 61), .lit (.int .u8 58), .lit (.int .u8 42), .lit (.int .u8 50), .lit (.int .u8 38), .lit (.int .u8 29), .lit (.int .u8 17), .lit (.int .u8 4), .lit (.int .u8 62), .lit (.int .u8 47), .lit (.int .u8 59), .lit (.int .u8 36), .lit (.int .u8 45), .lit (.int .u8 43), .lit (.int .u8 51), .lit (.int .u8 22), .lit (.int .u8 53), .lit (.int .u8 39), .lit (.int .u8 33), .lit (.int .u8 30), .lit (.int .u8 24), .lit (.int .u8 18), .lit (.int .u8 12), .lit (.int .u8 5), .lit (.int .u8 63), .lit (.int .u8 55), .lit (.int .u8 48), .lit (.int .u8 27), .lit (.int .u8 60), .lit (.int .u8 41), .lit (.int .u8 37), .lit (.int .u8 16), .lit (.int .u8 46), .lit (.int .u8 35), .lit (.int .u8 44), .lit (.int .u8 21), .lit (.int .u8 52), .lit (.int .u8 32), .lit (.int .u8 23), .lit (.int .u8 11), .lit (.int .u8 54), .lit (.int .u8 26), .lit (.int .u8 40), .lit (.int .u8 15), .lit (.int .u8 34), .lit (.int .u8 20), .lit (.int .u8 31), .lit (.int .u8 10), .lit (.int .u8 25), .lit (.int .u8 14), .lit (.int .u8 19), .lit (.int .u8 9), .lit (.int .u8 13), .lit (.int .u8 8), .lit (.int .u8 7), .lit (.int .u8 6)]
def laid_internal_strconv_uint64pow10 {H : Type} : DataW H := .agg [.lit (.int .u64 1), .lit (.int .u64 10), .lit (.int .u64 100), .lit (.int .u64 1000), .lit (.int .u64 10000), .lit (.int .u64 100000), .lit (.int .u64 1000000), .lit (.int .u64 10000000), .lit (.int .u64 100000000), .lit (.int .u64 1000000000), .lit (.int .u64 10000000000), .lit (.int .u64 100000000000), .lit (.int .u64 1000000000000), .lit (.int .u64 10000000000000), .lit (.int .u64 100000000000000), .lit (.int .u64 1000000000000000), .lit (.int .u64 10000000000000000), .lit (.int .u64 100000000000000000), .lit (.int .u64 1000000000000000000), .lit (.int .u64 10000000000000000000)]
def laid_geofence_header_fixed {H : Type} : DataW H := .agg [.lit (.int .i64 0), .lit (.int .i64 3), .lit (.int .i64 4), .lit (.int .i64 1), .lit (.int .i64 1), .lit (.int .i64 0)]

/-- 'geofencelaw22.TraceExpects': WHATEVER THE INPUT: true; the input reads as it did. -/
def traceExpectsSpec : ChangeSpec := { name := "traceExpects", fn := fun _ => fun
  | [d] => { results := [.lit (.bool true)], args := [d] }
  | _ => none }
def traceExpectsRow : OpenClaim := { program := "ytfljlmleiggmjaagreatdoor", sum := "82c9413b93ceadf0a0ce67fbff28d7f87188ceb9e3a683fd419ba257e6f46cc8", func := "geofence/geofencelaw22.TraceExpects", spec := "traceExpects", inPlace := ["math/bits.Sub64", "math/bits.Add64", "internal/abi.NoEscape", "internal/bytealg.MakeNoZero"], unfollowed := true, recurses := true, named := ["geofence/header.fixed", "geofence/mask.words", "internal/strconv.uint64pow10", "math/bits.deBruijn32tab", "math/bits.deBruijn64tab"], apart := false, laid := [("geofence/mask.words", laid_geofence_mask_words), ("math/bits.deBruijn32tab", laid_math_bits_deBruijn32tab), ("math/bits.deBruijn64tab", laid_math_bits_deBruijn64tab), ("internal/strconv.uint64pow10", laid_internal_strconv_uint64pow10), ("geofence/header.fixed", laid_geofence_header_fixed)] }
def TraceExpectsSaid : Prop := traceExpectsRow.holds Tryz.pinned (OpenSpec.ofChange traceExpectsSpec)

/-- ITS FALSE NEIGHBOUR: 'it returns false'. Refute it at one input. -/
def traceExpectsWrong : ChangeSpec := { name := "traceExpects", fn := fun _ => fun
  | [d] => { results := [.lit (.bool false)], args := [d] }
  | _ => none }
def TraceExpectsWrongFalsely : Prop := traceExpectsRow.holds Tryz.pinned (OpenSpec.ofChange traceExpectsWrong)

/-- 'geofencelaw22.TraceChecks': WHATEVER THE INPUT: true; the input reads as it did. -/
def traceChecksSpec : ChangeSpec := { name := "traceChecks", fn := fun _ => fun
  | [d] => { results := [.lit (.bool true)], args := [d] }
  | _ => none }
def traceChecksRow : OpenClaim := { program := "ytfljlmleiggmjaagreatdoor", sum := "82c9413b93ceadf0a0ce67fbff28d7f87188ceb9e3a683fd419ba257e6f46cc8", func := "geofence/geofencelaw22.TraceChecks", spec := "traceChecks", inPlace := ["math/bits.Sub64", "math/bits.Add64", "internal/abi.NoEscape", "internal/bytealg.MakeNoZero"], unfollowed := true, recurses := true, named := ["geofence/header.fixed", "geofence/mask.words", "internal/strconv.uint64pow10", "math/bits.deBruijn32tab", "math/bits.deBruijn64tab"], apart := false, laid := [("geofence/mask.words", laid_geofence_mask_words), ("math/bits.deBruijn32tab", laid_math_bits_deBruijn32tab), ("math/bits.deBruijn64tab", laid_math_bits_deBruijn64tab), ("internal/strconv.uint64pow10", laid_internal_strconv_uint64pow10), ("geofence/header.fixed", laid_geofence_header_fixed)] }
def TraceChecksSaid : Prop := traceChecksRow.holds Tryz.pinned (OpenSpec.ofChange traceChecksSpec)

/-- ITS FALSE NEIGHBOUR: 'it returns false'. Refute it at one input. -/
def traceChecksWrong : ChangeSpec := { name := "traceChecks", fn := fun _ => fun
  | [d] => { results := [.lit (.bool false)], args := [d] }
  | _ => none }
def TraceChecksWrongFalsely : Prop := traceChecksRow.holds Tryz.pinned (OpenSpec.ofChange traceChecksWrong)

/-- 'geofencelaw22.TraceFormats': WHATEVER THE INPUT: true; the input reads as it did. -/
def traceFormatsSpec : ChangeSpec := { name := "traceFormats", fn := fun _ => fun
  | [d] => { results := [.lit (.bool true)], args := [d] }
  | _ => none }
def traceFormatsRow : OpenClaim := { program := "ytfljlmleiggmjaagreatdoor", sum := "82c9413b93ceadf0a0ce67fbff28d7f87188ceb9e3a683fd419ba257e6f46cc8", func := "geofence/geofencelaw22.TraceFormats", spec := "traceFormats", inPlace := ["math/bits.Sub64", "math/bits.Add64", "internal/abi.NoEscape", "internal/bytealg.MakeNoZero"], unfollowed := true, recurses := true, named := ["geofence/header.fixed", "geofence/mask.words", "internal/strconv.uint64pow10", "math/bits.deBruijn32tab", "math/bits.deBruijn64tab"], apart := false, laid := [("geofence/mask.words", laid_geofence_mask_words), ("math/bits.deBruijn32tab", laid_math_bits_deBruijn32tab), ("math/bits.deBruijn64tab", laid_math_bits_deBruijn64tab), ("internal/strconv.uint64pow10", laid_internal_strconv_uint64pow10), ("geofence/header.fixed", laid_geofence_header_fixed)] }
def TraceFormatsSaid : Prop := traceFormatsRow.holds Tryz.pinned (OpenSpec.ofChange traceFormatsSpec)

/-- ITS FALSE NEIGHBOUR: 'it returns false'. Refute it at one input. -/
def traceFormatsWrong : ChangeSpec := { name := "traceFormats", fn := fun _ => fun
  | [d] => { results := [.lit (.bool false)], args := [d] }
  | _ => none }
def TraceFormatsWrongFalsely : Prop := traceFormatsRow.holds Tryz.pinned (OpenSpec.ofChange traceFormatsWrong)

/-- 'geofencelaw22.TraceCounts': WHATEVER THE INPUT: true; the input reads as it did. -/
def traceCountsSpec : ChangeSpec := { name := "traceCounts", fn := fun _ => fun
  | [d] => { results := [.lit (.bool true)], args := [d] }
  | _ => none }
def traceCountsRow : OpenClaim := { program := "ytfljlmleiggmjaagreatdoor", sum := "82c9413b93ceadf0a0ce67fbff28d7f87188ceb9e3a683fd419ba257e6f46cc8", func := "geofence/geofencelaw22.TraceCounts", spec := "traceCounts", inPlace := ["math/bits.Sub64", "math/bits.Add64", "internal/abi.NoEscape", "internal/bytealg.MakeNoZero"], unfollowed := true, recurses := true, named := ["geofence/header.fixed", "geofence/mask.words", "internal/strconv.uint64pow10", "math/bits.deBruijn32tab", "math/bits.deBruijn64tab"], apart := false, laid := [("geofence/mask.words", laid_geofence_mask_words), ("math/bits.deBruijn32tab", laid_math_bits_deBruijn32tab), ("math/bits.deBruijn64tab", laid_math_bits_deBruijn64tab), ("internal/strconv.uint64pow10", laid_internal_strconv_uint64pow10), ("geofence/header.fixed", laid_geofence_header_fixed)] }
def TraceCountsSaid : Prop := traceCountsRow.holds Tryz.pinned (OpenSpec.ofChange traceCountsSpec)

/-- ITS FALSE NEIGHBOUR: 'it returns false'. Refute it at one input. -/
def traceCountsWrong : ChangeSpec := { name := "traceCounts", fn := fun _ => fun
  | [d] => { results := [.lit (.bool false)], args := [d] }
  | _ => none }
def TraceCountsWrongFalsely : Prop := traceCountsRow.holds Tryz.pinned (OpenSpec.ofChange traceCountsWrong)

/-- 'geofencelaw22.TraceOf': WHATEVER THE INPUT: true; the input reads as it did. -/
def traceOfSpec : ChangeSpec := { name := "traceOf", fn := fun _ => fun
  | [d] => { results := [.lit (.bool true)], args := [d] }
  | _ => none }
def traceOfRow : OpenClaim := { program := "ytfljlmleiggmjaagreatdoor", sum := "82c9413b93ceadf0a0ce67fbff28d7f87188ceb9e3a683fd419ba257e6f46cc8", func := "geofence/geofencelaw22.TraceOf", spec := "traceOf", inPlace := ["math/bits.Sub64", "math/bits.Add64", "internal/abi.NoEscape", "internal/bytealg.MakeNoZero"], unfollowed := true, recurses := true, named := ["geofence/header.fixed", "geofence/mask.words", "internal/strconv.uint64pow10", "math/bits.deBruijn32tab", "math/bits.deBruijn64tab"], apart := false, laid := [("geofence/mask.words", laid_geofence_mask_words), ("math/bits.deBruijn32tab", laid_math_bits_deBruijn32tab), ("math/bits.deBruijn64tab", laid_math_bits_deBruijn64tab), ("internal/strconv.uint64pow10", laid_internal_strconv_uint64pow10), ("geofence/header.fixed", laid_geofence_header_fixed)] }
def TraceOfSaid : Prop := traceOfRow.holds Tryz.pinned (OpenSpec.ofChange traceOfSpec)

/-- ITS FALSE NEIGHBOUR: 'it returns false'. Refute it at one input. -/
def traceOfWrong : ChangeSpec := { name := "traceOf", fn := fun _ => fun
  | [d] => { results := [.lit (.bool false)], args := [d] }
  | _ => none }
def TraceOfWrongFalsely : Prop := traceOfRow.holds Tryz.pinned (OpenSpec.ofChange traceOfWrong)

/-- 'geofencelaw22.TraceJoins': WHATEVER THE INPUT: true; the input reads as it did. -/
def traceJoinsSpec : ChangeSpec := { name := "traceJoins", fn := fun _ => fun
  | [d1, d2] => { results := [.lit (.bool true)], args := [d1, d2] }
  | _ => none }
def traceJoinsRow : OpenClaim := { program := "ytfljlmleiggmjaagreatdoor", sum := "82c9413b93ceadf0a0ce67fbff28d7f87188ceb9e3a683fd419ba257e6f46cc8", func := "geofence/geofencelaw22.TraceJoins", spec := "traceJoins", inPlace := ["math/bits.Sub64", "math/bits.Add64", "internal/abi.NoEscape", "internal/bytealg.MakeNoZero", "internal/bytealg.CountString", "internal/bytealg.IndexByteString", "internal/bytealg.IndexString"], unfollowed := true, recurses := true, named := ["geofence/header.fixed", "geofence/mask.words", "internal/strconv.uint64pow10", "math/bits.deBruijn32tab", "math/bits.deBruijn64tab", "internal/bytealg.MaxLen"], apart := false, laid := [("geofence/mask.words", laid_geofence_mask_words), ("math/bits.deBruijn32tab", laid_math_bits_deBruijn32tab), ("math/bits.deBruijn64tab", laid_math_bits_deBruijn64tab), ("internal/strconv.uint64pow10", laid_internal_strconv_uint64pow10), ("geofence/header.fixed", laid_geofence_header_fixed)] }
def TraceJoinsSaid : Prop := traceJoinsRow.holds Tryz.pinned (OpenSpec.ofChange traceJoinsSpec)

/-- ITS FALSE NEIGHBOUR: 'it returns false'. Refute it at one input. -/
def traceJoinsWrong : ChangeSpec := { name := "traceJoins", fn := fun _ => fun
  | [d1, d2] => { results := [.lit (.bool false)], args := [d1, d2] }
  | _ => none }
def TraceJoinsWrongFalsely : Prop := traceJoinsRow.holds Tryz.pinned (OpenSpec.ofChange traceJoinsWrong)

/-- 'geofencetop.TopOblivious': WHATEVER THE INPUT: true; the input reads as it did. -/
def topObliviousSpec : ChangeSpec := { name := "topOblivious", fn := fun _ => fun
  | [d1, d2, d3] => { results := [.lit (.bool true)], args := [d1, d2, d3] }
  | _ => none }
def topObliviousRow : OpenClaim := { program := "ytfljlmleiggmjaagreatdoor", sum := "82c9413b93ceadf0a0ce67fbff28d7f87188ceb9e3a683fd419ba257e6f46cc8", func := "geofence/geofencetop.TopOblivious", spec := "topOblivious", inPlace := ["math/bits.Sub64", "math/bits.Add64"], unfollowed := true, recurses := true, named := ["geofence/header.fixed", "geofence/mask.words"], apart := false, laid := [("geofence/mask.words", laid_geofence_mask_words), ("geofence/header.fixed", laid_geofence_header_fixed)] }
def TopObliviousSaid : Prop := topObliviousRow.holds Tryz.pinned (OpenSpec.ofChange topObliviousSpec)

/-- ITS FALSE NEIGHBOUR: 'it returns false'. Refute it at one input. -/
def topObliviousWrong : ChangeSpec := { name := "topOblivious", fn := fun _ => fun
  | [d1, d2, d3] => { results := [.lit (.bool false)], args := [d1, d2, d3] }
  | _ => none }
def TopObliviousWrongFalsely : Prop := topObliviousRow.holds Tryz.pinned (OpenSpec.ofChange topObliviousWrong)

/- THE SECOND FORM. 'bulk': how many values and letters a reading holds, each counted each time it is reached (what is shared counts as often as it is met; a slice's spare places count too). A statement '..UptoSaid' is the law's where the arguments, and the package variables that the reading takes, are together of bulk at most 1048576: NARROWER than '..Said'. Prove '..Said' where nothing that the law and all that it calls make is longer than what came in: it says more and counts as full. Else prove '..UptoSaid'. A law counts once. -/
mutual
def uptoBulk {H : Type} : DataW H → Nat
  | .lit (.string bytes) => bytes.length + 1
  | .lit _ => 1
  | .nil => 1
  | .ptr d => uptoBulk d + 1
  | .slice elems spare => uptoBulkAll elems + uptoBulkAll spare + 1
  | .agg parts => uptoBulkAll parts + 1
  | .iface _ d => uptoBulk d + 1
  | .map entries => uptoBulkEntries entries + 1
  | .held _ => 1
def uptoBulkAll {H : Type} : List (DataW H) → Nat
  | [] => 0
  | d :: r => uptoBulk d + uptoBulkAll r
def uptoBulkEntries {H : Type} : List (Lit × DataW H) → Nat
  | [] => 0
  | x :: r => uptoBulkEntry x + uptoBulkEntries r
def uptoBulkEntry {H : Type} : Lit × DataW H → Nat
  | (.string bytes, d) => bytes.length + uptoBulk d + 1
  | (_, d) => uptoBulk d + 1
 end
def uptoSmall : (H : Type) → List (DataW H) → Bool := fun _ ds => decide (uptoBulkAll ds ≤ 1048576)
def OpenSpec.upto (s : _root_.Go.ChangeSpec) : _root_.Go.OpenSpec := { _root_.Go.OpenSpec.ofChange s with cond := some uptoSmall }

/-- 'geofencelaw22.TraceExpects', WHERE WHAT IT READS IS OF BULK AT MOST 1048576: true; the input reads as it did. -/
def traceExpectsUptoRow : OpenClaim := { program := "ytfljlmleiggmjaagreatdoor", sum := "82c9413b93ceadf0a0ce67fbff28d7f87188ceb9e3a683fd419ba257e6f46cc8", func := "geofence/geofencelaw22.TraceExpects", spec := "traceExpects", inPlace := ["math/bits.Sub64", "math/bits.Add64", "internal/abi.NoEscape", "internal/bytealg.MakeNoZero"], unfollowed := true, recurses := true, named := ["geofence/header.fixed", "geofence/mask.words", "internal/strconv.uint64pow10", "math/bits.deBruijn32tab", "math/bits.deBruijn64tab"], apart := false, laid := [("geofence/mask.words", laid_geofence_mask_words), ("math/bits.deBruijn32tab", laid_math_bits_deBruijn32tab), ("math/bits.deBruijn64tab", laid_math_bits_deBruijn64tab), ("internal/strconv.uint64pow10", laid_internal_strconv_uint64pow10), ("geofence/header.fixed", laid_geofence_header_fixed)], narrowed := true }
def TraceExpectsUptoSaid : Prop := traceExpectsUptoRow.holds Tryz.pinned (OpenSpec.upto traceExpectsSpec)

/-- 'geofencelaw22.TraceChecks', WHERE WHAT IT READS IS OF BULK AT MOST 1048576: true; the input reads as it did. -/
def traceChecksUptoRow : OpenClaim := { program := "ytfljlmleiggmjaagreatdoor", sum := "82c9413b93ceadf0a0ce67fbff28d7f87188ceb9e3a683fd419ba257e6f46cc8", func := "geofence/geofencelaw22.TraceChecks", spec := "traceChecks", inPlace := ["math/bits.Sub64", "math/bits.Add64", "internal/abi.NoEscape", "internal/bytealg.MakeNoZero"], unfollowed := true, recurses := true, named := ["geofence/header.fixed", "geofence/mask.words", "internal/strconv.uint64pow10", "math/bits.deBruijn32tab", "math/bits.deBruijn64tab"], apart := false, laid := [("geofence/mask.words", laid_geofence_mask_words), ("math/bits.deBruijn32tab", laid_math_bits_deBruijn32tab), ("math/bits.deBruijn64tab", laid_math_bits_deBruijn64tab), ("internal/strconv.uint64pow10", laid_internal_strconv_uint64pow10), ("geofence/header.fixed", laid_geofence_header_fixed)], narrowed := true }
def TraceChecksUptoSaid : Prop := traceChecksUptoRow.holds Tryz.pinned (OpenSpec.upto traceChecksSpec)

/-- 'geofencelaw22.TraceFormats', WHERE WHAT IT READS IS OF BULK AT MOST 1048576: true; the input reads as it did. -/
def traceFormatsUptoRow : OpenClaim := { program := "ytfljlmleiggmjaagreatdoor", sum := "82c9413b93ceadf0a0ce67fbff28d7f87188ceb9e3a683fd419ba257e6f46cc8", func := "geofence/geofencelaw22.TraceFormats", spec := "traceFormats", inPlace := ["math/bits.Sub64", "math/bits.Add64", "internal/abi.NoEscape", "internal/bytealg.MakeNoZero"], unfollowed := true, recurses := true, named := ["geofence/header.fixed", "geofence/mask.words", "internal/strconv.uint64pow10", "math/bits.deBruijn32tab", "math/bits.deBruijn64tab"], apart := false, laid := [("geofence/mask.words", laid_geofence_mask_words), ("math/bits.deBruijn32tab", laid_math_bits_deBruijn32tab), ("math/bits.deBruijn64tab", laid_math_bits_deBruijn64tab), ("internal/strconv.uint64pow10", laid_internal_strconv_uint64pow10), ("geofence/header.fixed", laid_geofence_header_fixed)], narrowed := true }
def TraceFormatsUptoSaid : Prop := traceFormatsUptoRow.holds Tryz.pinned (OpenSpec.upto traceFormatsSpec)

/-- 'geofencelaw22.TraceCounts', WHERE WHAT IT READS IS OF BULK AT MOST 1048576: true; the input reads as it did. -/
def traceCountsUptoRow : OpenClaim := { program := "ytfljlmleiggmjaagreatdoor", sum := "82c9413b93ceadf0a0ce67fbff28d7f87188ceb9e3a683fd419ba257e6f46cc8", func := "geofence/geofencelaw22.TraceCounts", spec := "traceCounts", inPlace := ["math/bits.Sub64", "math/bits.Add64", "internal/abi.NoEscape", "internal/bytealg.MakeNoZero"], unfollowed := true, recurses := true, named := ["geofence/header.fixed", "geofence/mask.words", "internal/strconv.uint64pow10", "math/bits.deBruijn32tab", "math/bits.deBruijn64tab"], apart := false, laid := [("geofence/mask.words", laid_geofence_mask_words), ("math/bits.deBruijn32tab", laid_math_bits_deBruijn32tab), ("math/bits.deBruijn64tab", laid_math_bits_deBruijn64tab), ("internal/strconv.uint64pow10", laid_internal_strconv_uint64pow10), ("geofence/header.fixed", laid_geofence_header_fixed)], narrowed := true }
def TraceCountsUptoSaid : Prop := traceCountsUptoRow.holds Tryz.pinned (OpenSpec.upto traceCountsSpec)

/-- 'geofencelaw22.TraceOf', WHERE WHAT IT READS IS OF BULK AT MOST 1048576: true; the input reads as it did. -/
def traceOfUptoRow : OpenClaim := { program := "ytfljlmleiggmjaagreatdoor", sum := "82c9413b93ceadf0a0ce67fbff28d7f87188ceb9e3a683fd419ba257e6f46cc8", func := "geofence/geofencelaw22.TraceOf", spec := "traceOf", inPlace := ["math/bits.Sub64", "math/bits.Add64", "internal/abi.NoEscape", "internal/bytealg.MakeNoZero"], unfollowed := true, recurses := true, named := ["geofence/header.fixed", "geofence/mask.words", "internal/strconv.uint64pow10", "math/bits.deBruijn32tab", "math/bits.deBruijn64tab"], apart := false, laid := [("geofence/mask.words", laid_geofence_mask_words), ("math/bits.deBruijn32tab", laid_math_bits_deBruijn32tab), ("math/bits.deBruijn64tab", laid_math_bits_deBruijn64tab), ("internal/strconv.uint64pow10", laid_internal_strconv_uint64pow10), ("geofence/header.fixed", laid_geofence_header_fixed)], narrowed := true }
def TraceOfUptoSaid : Prop := traceOfUptoRow.holds Tryz.pinned (OpenSpec.upto traceOfSpec)

/-- 'geofencelaw22.TraceJoins', WHERE WHAT IT READS IS OF BULK AT MOST 1048576: true; the input reads as it did. -/
def traceJoinsUptoRow : OpenClaim := { program := "ytfljlmleiggmjaagreatdoor", sum := "82c9413b93ceadf0a0ce67fbff28d7f87188ceb9e3a683fd419ba257e6f46cc8", func := "geofence/geofencelaw22.TraceJoins", spec := "traceJoins", inPlace := ["math/bits.Sub64", "math/bits.Add64", "internal/abi.NoEscape", "internal/bytealg.MakeNoZero", "internal/bytealg.CountString", "internal/bytealg.IndexByteString", "internal/bytealg.IndexString"], unfollowed := true, recurses := true, named := ["geofence/header.fixed", "geofence/mask.words", "internal/strconv.uint64pow10", "math/bits.deBruijn32tab", "math/bits.deBruijn64tab", "internal/bytealg.MaxLen"], apart := false, laid := [("geofence/mask.words", laid_geofence_mask_words), ("math/bits.deBruijn32tab", laid_math_bits_deBruijn32tab), ("math/bits.deBruijn64tab", laid_math_bits_deBruijn64tab), ("internal/strconv.uint64pow10", laid_internal_strconv_uint64pow10), ("geofence/header.fixed", laid_geofence_header_fixed)], narrowed := true }
def TraceJoinsUptoSaid : Prop := traceJoinsUptoRow.holds Tryz.pinned (OpenSpec.upto traceJoinsSpec)

/-- 'geofencetop.TopOblivious', WHERE WHAT IT READS IS OF BULK AT MOST 1048576: true; the input reads as it did. -/
def topObliviousUptoRow : OpenClaim := { program := "ytfljlmleiggmjaagreatdoor", sum := "82c9413b93ceadf0a0ce67fbff28d7f87188ceb9e3a683fd419ba257e6f46cc8", func := "geofence/geofencetop.TopOblivious", spec := "topOblivious", inPlace := ["math/bits.Sub64", "math/bits.Add64"], unfollowed := true, recurses := true, named := ["geofence/header.fixed", "geofence/mask.words"], apart := false, laid := [("geofence/mask.words", laid_geofence_mask_words), ("geofence/header.fixed", laid_geofence_header_fixed)], narrowed := true }
def TopObliviousUptoSaid : Prop := topObliviousUptoRow.holds Tryz.pinned (OpenSpec.upto topObliviousSpec)

end Rows
end Go.Proofs.YtfljlmleiggmjaaGreatDoor
