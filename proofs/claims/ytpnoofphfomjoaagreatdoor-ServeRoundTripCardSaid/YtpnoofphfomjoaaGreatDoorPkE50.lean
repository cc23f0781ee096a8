/- RowKit21 -/
import Derived.Test.YtpnoofphfomjoaaGreatDoorCards
import Derived.Test.YtpnoofphfomjoaaGreatDoorTie
import Derived.Deep.DeepLaidRun
import Derived.Test.YtpnoofphfomjoaaGreatDoorPkE06
import Derived.Test.YtpnoofphfomjoaaGreatDoorPkE25
import Derived.Test.YtpnoofphfomjoaaGreatDoorPkE49
namespace Go.Proofs.YtpnoofphfomjoaaGreatDoor
open Go.ChangeShapes Go.WideShapes Go.ChangeAt Go.RowKit
theorem gWords : Tryz.prog.globalNamed "geofence/mask.words" = some 1 := by kernel_rfl
theorem gWordsType : (Tryz.prog.globals[1]?).map (·.type) = some 210 := by kernel_rfl
theorem cellsWords : Tryz.prog.cellsOf 210 = 2 := by kernel_rfl
theorem cellsUint64 : Tryz.prog.cellsOf 80 = 1 := by kernel_rfl
theorem gFixed : Tryz.prog.globalNamed "geofence/header.fixed" = some 0 := by kernel_rfl
theorem gFixedType : (Tryz.prog.globals[0]?).map (·.type) = some 205 := by kernel_rfl
theorem cellsFixed : Tryz.prog.cellsOf 205 = 6 := by kernel_rfl
theorem cellsInt : Tryz.prog.cellsOf 3 = 1 := by kernel_rfl
theorem laid_tail {P : Program} {x : String × DataW Unit} {l : List (String × DataW Unit)} {W : World} (h : laidMet P (x :: l) W) : laidMet P l W := by
  obtain ⟨ps, ⟨g', t', cs, fuel, p, q, hg', ht', hvar, hd, hq, hps⟩, hn, hm⟩ := h
  subst hps
  exact ⟨q, hq, (List.nodup_append.1 hn).2.1, fun b off hp => hm b off (List.mem_append_right _ hp)⟩
/-- what the row's list gives -/
theorem fixed_of_laid {W : World} (h : laidMetH Tryz.prog [("geofence/mask.words", Rows.laid_geofence_mask_words), ("geofence/header.fixed", Rows.laid_geofence_header_fixed)] W) : (Fixed W ∧ 0 < W.heap.size) ∧ MW W := by
  have h' : laidMet Tryz.prog [("geofence/mask.words", Rows.laid_geofence_mask_words), ("geofence/header.fixed", Rows.laid_geofence_header_fixed)] W := h
  have ht : Lib.TabIs Tryz.prog W "geofence/mask.words" .u64 [9223372036854775808, 18446744073709551615] := Lib.tabIs_of_head (rest := [("geofence/header.fixed", Rows.laid_geofence_header_fixed)]) gWords gWordsType Tryz.underlying210 Tryz.underlying80 cellsUint64 cellsWords h'
  have hf : Lib.TabIs Tryz.prog W "geofence/header.fixed" .i64 [0, 3, 4, 1, 1, 0] := Lib.tabIs_of_head (rest := []) gFixed gFixedType Tryz.underlying205 Tryz.underlying3 cellsInt cellsFixed (laid_tail h')
  have h0 := ht.cell gWords 0 (by decide)
  have h1 := ht.cell gWords 1 (by decide)
  have hc : Fixed W := fun j hj => hf.cell gFixed j (by simpa using hj)
  exact ⟨⟨hc, block_lt (hc 0 (by omega))⟩, ⟨h0, h1⟩, block_lt h0⟩
theorem psJ_of {ps : List Pt} (h : ∀ p ∈ ps, I64 p.1 ∧ I64 p.2) : PsJ ps := fun p hp => by
  have := h p hp
  unfold I64 at this
  exact ⟨⟨this.1.1, by omega⟩, this.2.1, by omega⟩
theorem pJ_of {p : Pt} (h : I64 p.1 ∧ I64 p.2) : PJ p := by
  unfold I64 at h
  exact ⟨⟨h.1.1, by omega⟩, h.2.1, by omega⟩
def litV : DataW Unit → Value
  | .lit (.int k n) => .int k n
  | _ => undef
/-- the cells of a table of numbers -/
def litCells : DataW Unit → List Value
  | .agg ps => ps.map litV
  | x => [litV x]
def layTable (d : DataW Unit) : Obj → Obj
  | .cells _ t frozen => .cells (litCells d).toArray t frozen
  | o => o
/-- a world for the witness: the settled one, the tables laid -/
noncomputable def laidWorld (os : Os) : World :=
  { World.holding Tryz.prog os ⟨#[], #[], []⟩ with heap := ((World.holding Tryz.prog os ⟨#[], #[], []⟩).heap.modify 1 (layTable Rows.laid_geofence_mask_words)).modify 0 (layTable Rows.laid_geofence_header_fixed) }
end Go.Proofs.YtpnoofphfomjoaaGreatDoor
