/- RowKit22 -/
import Derived.Deep.DeepHandedRow
import Derived.Deep.DeepLaidRun
import Derived.Deep.Slices
import Derived.Deep.Strs
import Derived.Lib.LaidTab
import Derived.Lib.SmallJoins
import Derived.OpenShut
import Derived.ProofKit
import Derived.Test.YtfljlmleiggmjaaGreatDoorCards
import Derived.Test.YtfljlmleiggmjaaGreatDoorTie
import Derived.Test.YtfljlmleiggmjaaGreatDoorPkD18
import Derived.Test.YtfljlmleiggmjaaGreatDoorPkD22
set_option maxRecDepth 1000000
set_option maxHeartbeats 8000000
namespace Go.Proofs.YtfljlmleiggmjaaGreatDoor
open Go.Proofs.Tryz
section
open Go.ChangeShapes Go.WideShapes Go.ChangeAt Go.RowKit
theorem zV : prog.globalNamed "geofence/mask.words" = some 3 := by kernel_rfl
theorem zW:(prog.globals[3]?).map (·.type)=some 263:=by kernel_rfl
theorem zx:prog.cellsOf 263=2:=by kernel_rfl
theorem ME:prog.cellsOf 124=1:=by kernel_rfl
theorem oz : prog.globalNamed "geofence/header.fixed" = some 1 := by kernel_rfl
theorem zU:(prog.globals[1]?).map (·.type)=some 176:=by kernel_rfl
theorem zw:prog.cellsOf 176=6:=by kernel_rfl
theorem nK:prog.cellsOf 3=1:=by kernel_rfl
theorem QJ{P:Program}{x:String × DataW Unit}{l:List (String × DataW Unit)}{W:World}(h:laidMet P (x::l) W):laidMet P l W:=by
 obtain ⟨ps,⟨g',t',cs,fuel,p,q,hg',ht',hvar,hd,hq,hps⟩,hn,hm⟩:=h;subst hps;exact ⟨q,hq,(List.nodup_append.1 hn).2.1,fun b off hp=>hm b off (List.mem_append_right _ hp)⟩
theorem zjj : prog.globalNamed "internal/strconv.uint64pow10" = some 2 := by kernel_rfl
theorem oC:(prog.globals[2]?).map (·.type)=some 277:=by kernel_rfl
theorem nL:prog.cellsOf 277=20:=by kernel_rfl
theorem Jr{W : World}(h : laidMetH prog [("geofence/mask.words", Rows.laid_geofence_mask_words), ("math/bits.deBruijn32tab", Rows.laid_math_bits_deBruijn32tab), ("math/bits.deBruijn64tab", Rows.laid_math_bits_deBruijn64tab), ("internal/strconv.uint64pow10", Rows.laid_internal_strconv_uint64pow10), ("geofence/header.fixed", Rows.laid_geofence_header_fixed)] W): (Fixed W /\ 1 < W.heap.size) /\ (MW W /\ PT W) := by
 have h' : laidMet prog [("geofence/mask.words", Rows.laid_geofence_mask_words), ("math/bits.deBruijn32tab", Rows.laid_math_bits_deBruijn32tab), ("math/bits.deBruijn64tab", Rows.laid_math_bits_deBruijn64tab), ("internal/strconv.uint64pow10", Rows.laid_internal_strconv_uint64pow10), ("geofence/header.fixed", Rows.laid_geofence_header_fixed)] W := h;have ht : Lib.TabIs prog W "geofence/mask.words" .u64 [9223372036854775808, 18446744073709551615] := Lib.tabIs_of_head (rest := [("math/bits.deBruijn32tab", Rows.laid_math_bits_deBruijn32tab), ("math/bits.deBruijn64tab", Rows.laid_math_bits_deBruijn64tab), ("internal/strconv.uint64pow10", Rows.laid_internal_strconv_uint64pow10), ("geofence/header.fixed", Rows.laid_geofence_header_fixed)]) zV zW underlying263 underlying124 ME zx h';have h3:=QJ (QJ (QJ h'));have hp : Lib.TabIs prog W "internal/strconv.uint64pow10" .u64 Lib.pow10Tab := Lib.tabIs_of_head (rest := [("geofence/header.fixed", Rows.laid_geofence_header_fixed)]) zjj oC underlying277 underlying124 ME nL h3;have hf : Lib.TabIs prog W "geofence/header.fixed" .i64 [0, 3, 4, 1, 1, 0] := Lib.tabIs_of_head (rest := []) oz zU underlying176 underlying3 nK zw (QJ h3);have h0:=ht.cell zV 0 (by decide);have h1:=ht.cell zV 1 (by decide);have hc:Fixed W:=fun j hj=>hf.cell oz j (by simpa using hj);exact ⟨⟨hc,block_lt (hc 0 (by omega))⟩,⟨⟨h0,h1⟩,block_lt h0⟩,PT.of hp⟩
def zqp:DataW Unit->Value
 | .lit (.int k n)=>.int k n
 | _=>undef
def qO:DataW Unit->List Value
 | .agg ps=>ps.map zqp
 | x=>[zqp x]
def Rj(d:DataW Unit):Obj->Obj
 | .cells _ t frozen=>.cells (qO d).toArray t frozen
 | o=>o
noncomputable def NS (os:Os):World :=
 { World.holding prog os ⟨#[],#[],[]⟩ with heap:=((((((World.holding prog os ⟨#[],#[],[]⟩).heap.modify 3 (Rj Rows.laid_geofence_mask_words)).modify 4 (Rj Rows.laid_math_bits_deBruijn32tab)).modify 5 (Rj Rows.laid_math_bits_deBruijn64tab)).modify 2 (Rj Rows.laid_internal_strconv_uint64pow10)).modify 1 (Rj Rows.laid_geofence_header_fixed)) }
end
end Go.Proofs.YtfljlmleiggmjaaGreatDoor