/- RowKit22 -/
import Derived.Deep.DeepHandedRow
import Derived.Deep.DeepLaidRun
import Derived.Deep.Slices
import Derived.Deep.Strs
import Derived.Lib.LaidTab
import Derived.Lib.SmallJoins
import Derived.OpenShut
import Derived.ProofKit
import Derived.Test.YtfljlmleiggmjaaGreatDoorCards
import Derived.Test.YtfljlmleiggmjaaGreatDoorTie
import Derived.Test.YtfljlmleiggmjaaGreatDoorPkC23
import Derived.Test.YtfljlmleiggmjaaGreatDoorPkC45
import Derived.Test.YtfljlmleiggmjaaGreatDoorPkC48
set_option maxRecDepth 1000000
set_option maxHeartbeats 8000000
namespace Go.Proofs.YtfljlmleiggmjaaGreatDoor
section
open Go.ChangeShapes Go.WideShapes Go.ChangeAt Go.RowKit
theorem gWords : Tryz.prog.globalNamed "geofence/mask.words" = some 3 := by kernel_rfl
theorem gWordsType:(Tryz.prog.globals[3]?).map (·.type)=some 263:=by kernel_rfl
theorem cellsWords:Tryz.prog.cellsOf 263=2:=by kernel_rfl
theorem cellsUint64:Tryz.prog.cellsOf 124=1:=by kernel_rfl
theorem gFixed : Tryz.prog.globalNamed "geofence/header.fixed" = some 1 := by kernel_rfl
theorem gFixedType:(Tryz.prog.globals[1]?).map (·.type)=some 176:=by kernel_rfl
theorem cellsFixed:Tryz.prog.cellsOf 176=6:=by kernel_rfl
theorem cellsInt:Tryz.prog.cellsOf 3=1:=by kernel_rfl
theorem laid_tail {P:Program} {x:String × DataW Unit} {l:List (String × DataW Unit)} {W:World} (h:laidMet P (x::l) W):laidMet P l W:=by
 obtain ⟨ps,⟨g',t',cs,fuel,p,q,hg',ht',hvar,hd,hq,hps⟩,hn,hm⟩:=h
 subst hps
 exact ⟨q,hq,(List.nodup_append.1 hn).2.1,fun b off hp=>hm b off (List.mem_append_right _ hp)⟩
theorem gPow : Tryz.prog.globalNamed "internal/strconv.uint64pow10" = some 2 := by kernel_rfl
theorem gPowType:(Tryz.prog.globals[2]?).map (·.type)=some 277:=by kernel_rfl
theorem cellsPow:Tryz.prog.cellsOf 277=20:=by kernel_rfl
theorem fixed_of_laid {W : World} (h : laidMetH Tryz.prog [("geofence/mask.words", Rows.laid_geofence_mask_words), ("math/bits.deBruijn32tab", Rows.laid_math_bits_deBruijn32tab), ("math/bits.deBruijn64tab", Rows.laid_math_bits_deBruijn64tab), ("internal/strconv.uint64pow10", Rows.laid_internal_strconv_uint64pow10), ("geofence/header.fixed", Rows.laid_geofence_header_fixed)] W) : (Fixed W ∧ 1 < W.heap.size) ∧ (MW W ∧ PT W) := by
 have h' : laidMet Tryz.prog [("geofence/mask.words", Rows.laid_geofence_mask_words), ("math/bits.deBruijn32tab", Rows.laid_math_bits_deBruijn32tab), ("math/bits.deBruijn64tab", Rows.laid_math_bits_deBruijn64tab), ("internal/strconv.uint64pow10", Rows.laid_internal_strconv_uint64pow10), ("geofence/header.fixed", Rows.laid_geofence_header_fixed)] W := h
 have ht : Lib.TabIs Tryz.prog W "geofence/mask.words" .u64 [9223372036854775808, 18446744073709551615] := Lib.tabIs_of_head (rest := [("math/bits.deBruijn32tab", Rows.laid_math_bits_deBruijn32tab), ("math/bits.deBruijn64tab", Rows.laid_math_bits_deBruijn64tab), ("internal/strconv.uint64pow10", Rows.laid_internal_strconv_uint64pow10), ("geofence/header.fixed", Rows.laid_geofence_header_fixed)]) gWords gWordsType Tryz.underlying263 Tryz.underlying124 cellsUint64 cellsWords h'
 have h3:=laid_tail (laid_tail (laid_tail h'))
 have hp : Lib.TabIs Tryz.prog W "internal/strconv.uint64pow10" .u64 Lib.pow10Tab := Lib.tabIs_of_head (rest := [("geofence/header.fixed", Rows.laid_geofence_header_fixed)]) gPow gPowType Tryz.underlying277 Tryz.underlying124 cellsUint64 cellsPow h3
 have hf : Lib.TabIs Tryz.prog W "geofence/header.fixed" .i64 [0, 3, 4, 1, 1, 0] := Lib.tabIs_of_head (rest := []) gFixed gFixedType Tryz.underlying176 Tryz.underlying3 cellsInt cellsFixed (laid_tail h3)
 have h0:=ht.cell gWords 0 (by decide)
 have h1:=ht.cell gWords 1 (by decide)
 have hc:Fixed W:=fun j hj=>hf.cell gFixed j (by simpa using hj)
 exact ⟨⟨hc,block_lt (hc 0 (by omega))⟩,⟨⟨h0,h1⟩,block_lt h0⟩,PT.of hp⟩
def litV:DataW Unit→Value
 | .lit (.int k n)=>.int k n
 | _=>undef
def litCells:DataW Unit→List Value
 | .agg ps=>ps.map litV
 | x=>[litV x]
def layTable (d:DataW Unit):Obj→Obj
 | .cells _ t frozen=>.cells (litCells d).toArray t frozen
 | o=>o
noncomputable def laidWorld (os:Os):World :=
 { World.holding Tryz.prog os ⟨#[],#[],[]⟩ with heap:=((((((World.holding Tryz.prog os ⟨#[],#[],[]⟩).heap.modify 3 (layTable Rows.laid_geofence_mask_words)).modify 4 (layTable Rows.laid_math_bits_deBruijn32tab)).modify 5 (layTable Rows.laid_math_bits_deBruijn64tab)).modify 2 (layTable Rows.laid_internal_strconv_uint64pow10)).modify 1 (layTable Rows.laid_geofence_header_fixed)) }
end
end Go.Proofs.YtfljlmleiggmjaaGreatDoor
