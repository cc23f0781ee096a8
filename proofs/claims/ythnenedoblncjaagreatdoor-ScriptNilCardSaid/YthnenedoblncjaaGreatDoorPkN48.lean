/- RowKit23 RowFacts23 -/
import Derived.ChangeAlike
import Derived.Deep.DeepHandedRow
import Derived.Deep.DeepLaidRun
import Derived.Deep.DeepWitnessRowRef
import Derived.Deep.Slices
import Derived.Deep.Strs
import Derived.Lib.ItoaNum
import Derived.Lib.LaidTab
import Derived.Lib.SmallJoins
import Derived.Lib.Space
import Derived.OpenShut
import Derived.ProofKit
import Derived.Test.YthnenedoblncjaaGreatDoorCards
import Derived.Test.YthnenedoblncjaaGreatDoorTie
import Derived.Test.YthnenedoblncjaaGreatDoorPkN14
import Derived.Test.YthnenedoblncjaaGreatDoorPkN47
set_option maxRecDepth 1000000
set_option maxHeartbeats 8000000
namespace Go.Proofs.YthnenedoblncjaaGreatDoor
open Go.Proofs.Tryz
section
open Go.ChangeShapes Go.WideShapes Go.ChangeAt Go.RowKit
theorem MU : prog.globalNamed "geofence/mask.words" = some 8 := by kernel_rfl
theorem MV:(prog.globals[8]?).map (·.type)=some 311:=by kernel_rfl
theorem MB:prog.cellsOf 311=2:=by kernel_rfl
theorem Um:prog.cellsOf 44=1:=by kernel_rfl
theorem Hq : prog.globalNamed "geofence/header.fixed" = some 9 := by kernel_rfl
theorem MQ:(prog.globals[9]?).map (·.type)=some 192:=by kernel_rfl
theorem Mv:prog.cellsOf 192=6:=by kernel_rfl
theorem GK:prog.cellsOf 3=1:=by kernel_rfl
theorem Zp{P:Program}{x:String × DataW Unit}{l:List (String × DataW Unit)}{W:World}(h:laidMet P (x::l) W):laidMet P l W:=by
 obtain ⟨ps,⟨g',t',cs,fuel,p,q,hg',ht',hvar,hd,hq,hps⟩,hn,hm⟩:=h;subst hps;exact ⟨q,hq,(List.nodup_append.1 hn).2.1,fun b off hp=>hm b off (List.mem_append_right _ hp)⟩
theorem nU : prog.globalNamed "internal/strconv.uint64pow10" = some 0 := by kernel_rfl
theorem Hr:(prog.globals[0]?).map (·.type)=some 203:=by kernel_rfl
theorem GL:prog.cellsOf 203=20:=by kernel_rfl
theorem zM : prog.globalNamed "strings.asciiSpace" = some 1 := by kernel_rfl
theorem MR:(prog.globals[1]?).map (·.type)=some 218:=by kernel_rfl
theorem Mw:prog.cellsOf 218=256:=by kernel_rfl
theorem Mx:prog.cellsOf 5=1:=by kernel_rfl
theorem RX{W : World}(h : laidMetH prog [("geofence/mask.words", Rows.laid_geofence_mask_words), ("math/bits.deBruijn32tab", Rows.laid_math_bits_deBruijn32tab), ("math/bits.deBruijn64tab", Rows.laid_math_bits_deBruijn64tab), ("internal/strconv.uint64pow10", Rows.laid_internal_strconv_uint64pow10), ("unicode/utf8.acceptRanges", Rows.laid_unicode_utf8_acceptRanges), ("geofence/header.fixed", Rows.laid_geofence_header_fixed), ("unicode.White_Space", Rows.laid_unicode_White_Space), ("strings.asciiSpace", Rows.laid_strings_asciiSpace), ("unicode/utf8.first", Rows.laid_unicode_utf8_first)] W): (Fixed W /\ 9 < W.heap.size) /\ MW W := by
 have h' : laidMet prog [("geofence/mask.words", Rows.laid_geofence_mask_words), ("math/bits.deBruijn32tab", Rows.laid_math_bits_deBruijn32tab), ("math/bits.deBruijn64tab", Rows.laid_math_bits_deBruijn64tab), ("internal/strconv.uint64pow10", Rows.laid_internal_strconv_uint64pow10), ("unicode/utf8.acceptRanges", Rows.laid_unicode_utf8_acceptRanges), ("geofence/header.fixed", Rows.laid_geofence_header_fixed), ("unicode.White_Space", Rows.laid_unicode_White_Space), ("strings.asciiSpace", Rows.laid_strings_asciiSpace), ("unicode/utf8.first", Rows.laid_unicode_utf8_first)] W := h;have ht : Lib.TabIs prog W "geofence/mask.words" .u64 [9223372036854775808, 18446744073709551615] := Lib.tabIs_of_head (rest := [("math/bits.deBruijn32tab", Rows.laid_math_bits_deBruijn32tab), ("math/bits.deBruijn64tab", Rows.laid_math_bits_deBruijn64tab), ("internal/strconv.uint64pow10", Rows.laid_internal_strconv_uint64pow10), ("unicode/utf8.acceptRanges", Rows.laid_unicode_utf8_acceptRanges), ("geofence/header.fixed", Rows.laid_geofence_header_fixed), ("unicode.White_Space", Rows.laid_unicode_White_Space), ("strings.asciiSpace", Rows.laid_strings_asciiSpace), ("unicode/utf8.first", Rows.laid_unicode_utf8_first)]) MU MV underlying311 underlying44 Um MB h';have h5:=Zp (Zp (Zp (Zp (Zp h'))));have hf : Lib.TabIs prog W "geofence/header.fixed" .i64 [0, 3, 4, 1, 1, 0] := Lib.tabIs_of_head (rest := [("unicode.White_Space", Rows.laid_unicode_White_Space), ("strings.asciiSpace", Rows.laid_strings_asciiSpace), ("unicode/utf8.first", Rows.laid_unicode_utf8_first)]) Hq MQ underlying192 underlying3 GK Mv h5;have h0:=ht.cell MU 0 (by decide);have h1:=ht.cell MU 1 (by decide);have hc:Fixed W:=fun j hj=>hf.cell Hq j (by simpa using hj);exact ⟨⟨hc,block_lt (hc 0 (by omega))⟩,⟨h0,h1⟩,block_lt h0⟩
theorem NK:(Rows.laid_strings_asciiSpace:DataW Unit)=Lib.tabData .u8 Lib.asciiSpaceTab:=by kernel_rfl
theorem QO{W : World}(h : laidMetH prog [("geofence/mask.words", Rows.laid_geofence_mask_words), ("math/bits.deBruijn32tab", Rows.laid_math_bits_deBruijn32tab), ("math/bits.deBruijn64tab", Rows.laid_math_bits_deBruijn64tab), ("internal/strconv.uint64pow10", Rows.laid_internal_strconv_uint64pow10), ("unicode/utf8.acceptRanges", Rows.laid_unicode_utf8_acceptRanges), ("geofence/header.fixed", Rows.laid_geofence_header_fixed), ("unicode.White_Space", Rows.laid_unicode_White_Space), ("strings.asciiSpace", Rows.laid_strings_asciiSpace), ("unicode/utf8.first", Rows.laid_unicode_utf8_first)] W): Lib.TabIs prog W "internal/strconv.uint64pow10" .u64 Lib.pow10Tab /\ Lib.TabIs prog W "strings.asciiSpace" .u8 Lib.asciiSpaceTab := by
 have h' : laidMet prog [("geofence/mask.words", Rows.laid_geofence_mask_words), ("math/bits.deBruijn32tab", Rows.laid_math_bits_deBruijn32tab), ("math/bits.deBruijn64tab", Rows.laid_math_bits_deBruijn64tab), ("internal/strconv.uint64pow10", Rows.laid_internal_strconv_uint64pow10), ("unicode/utf8.acceptRanges", Rows.laid_unicode_utf8_acceptRanges), ("geofence/header.fixed", Rows.laid_geofence_header_fixed), ("unicode.White_Space", Rows.laid_unicode_White_Space), ("strings.asciiSpace", Rows.laid_strings_asciiSpace), ("unicode/utf8.first", Rows.laid_unicode_utf8_first)] W := h;have h3:=Zp (Zp (Zp h'));have hp : Lib.TabIs prog W "internal/strconv.uint64pow10" .u64 Lib.pow10Tab := Lib.tabIs_of_head (rest := [("unicode/utf8.acceptRanges", Rows.laid_unicode_utf8_acceptRanges), ("geofence/header.fixed", Rows.laid_geofence_header_fixed), ("unicode.White_Space", Rows.laid_unicode_White_Space), ("strings.asciiSpace", Rows.laid_strings_asciiSpace), ("unicode/utf8.first", Rows.laid_unicode_utf8_first)]) nU Hr underlying203 underlying44 Um GL h3;have h7:=Zp (Zp (Zp (Zp h3)));rw [NK] at h7;exact ⟨hp, Lib.tabIs_of_head (rest := [("unicode/utf8.first", Rows.laid_unicode_utf8_first)]) zM MR underlying218 underlying5 Mx Mw h7⟩
def BQ:DataW Unit->Value
 | .lit (.int k n)=>.int k n
 | _=>undef
def Pm:DataW Unit->List Value
 | .agg ps=>ps.flatMap fun
   | .agg qs=>qs.map BQ
   | x=>[BQ x]
 | x=>[BQ x]
def Ny:DataW Unit->List Value
 | .ptr (.agg (.slice es _::_))=>Pm (.agg es)
 | _=>[]
def Pj(cs:List Value):Obj->Obj
 | .cells _ t frozen=>.cells cs.toArray t frozen
 | o=>o
def Yk(d:DataW Unit):Obj->Obj:=Pj (Pm d)
noncomputable def UJ (os:Os):World :=
 let N:=(World.settled prog os).heap.size
 let w0:=World.holding prog os ⟨#[.cells (Ny Rows.laid_unicode_White_Space).toArray 369,.cells #[.slice (some ⟨N,0,none⟩) 7 7,.slice none 0 0,.int .i64 2] 366],#[],[]⟩
 { w0 with heap:=(((((((((w0.heap.modify 8 (Yk Rows.laid_geofence_mask_words)).modify 4 (Yk Rows.laid_math_bits_deBruijn32tab)).modify 5 (Yk Rows.laid_math_bits_deBruijn64tab)).modify 0 (Yk Rows.laid_internal_strconv_uint64pow10)).modify 7 (Yk Rows.laid_unicode_utf8_acceptRanges)).modify 9 (Yk Rows.laid_geofence_header_fixed)).modify 1 (Yk Rows.laid_strings_asciiSpace)).modify 6 (Yk Rows.laid_unicode_utf8_first)).modify 3 (Pj [.pointer (some ⟨N+1,0,none⟩)])) }
theorem YK{a b:Bool}(ha:a=true)(hb:b=true):(a && b)=true:=by rw [ha,hb];rfl
theorem Hg:laidOutB Tryz.pinned.checked.prog=true:=by kernel_rfl
theorem Hl:mapsRowed Tryz.pinned.checked.prog=true:=by kernel_rfl
theorem factKeys:(true == Tryz.pinned.checked.prog.plainKeys)=true:=by kernel_rfl
theorem Ki:Tryz.pinned.checked.prog.stopsHeard=true:=by kernel_rfl
theorem Kh:Tryz.pinned.checked.prog.mayEnter=true:=by kernel_rfl
end
end Go.Proofs.YthnenedoblncjaaGreatDoor