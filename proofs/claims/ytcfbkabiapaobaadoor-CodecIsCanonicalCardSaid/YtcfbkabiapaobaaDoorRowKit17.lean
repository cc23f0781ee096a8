/- What the rows' list of package-level variables gives; a world for the witness. -/
import Derived.Test.YtcfbkabiapaobaaDoorCards
import Derived.Test.YtcfbkabiapaobaaDoorTie
import Derived.Test.YtcfbkabiapaobaaDoorOpen
import Derived.Test.YtcfbkabiapaobaaDoorPayload
namespace Go.Proofs.YtcfbkabiapaobaaDoor
open Go.ChangeShapes Go.WideShapes Go.ChangeAt Go.RowKit

theorem gFixed : Tryd.prog.globalNamed "geofence/header.fixed" = some 0 := by kernel_rfl
theorem gFixedType : (Tryd.prog.globals[0]?).map (·.type) = some 104 := by kernel_rfl
theorem cellsFixed : Tryd.prog.cellsOf 104 = 6 := by kernel_rfl
theorem cellsInt : Tryd.prog.cellsOf 3 = 1 := by kernel_rfl

/-- what the row's list gives -/
theorem fixed_of_laid {W : World} (h : laidMetH Tryd.prog [("geofence/header.fixed", Rows.laid_geofence_header_fixed)] W) : Fixed W ∧ 0 < W.heap.size := by
  have ht : Lib.TabIs Tryd.prog W "geofence/header.fixed" .i64 [0, 3, 4, 1, 1, 0] := Lib.tabIs_of_head (rest := []) gFixed gFixedType Tryd.underlying104 Tryd.underlying3 cellsInt cellsFixed h
  have hc : Fixed W := fun j hj => ht.cell gFixed j (by simpa using hj)
  exact ⟨hc, block_lt (hc 0 (by omega))⟩

/-- a world for the witness: the settled one, the table laid -/
noncomputable def laidWorld (os : Os) : World :=
  { World.holding Tryd.prog os ⟨#[], #[], []⟩ with heap := (World.holding Tryd.prog os ⟨#[], #[], []⟩).heap.modify 0 fun
      | .cells _ t frozen => .cells #[.int .i64 0, .int .i64 3, .int .i64 4, .int .i64 1, .int .i64 1, .int .i64 0] t frozen
      | o => o }
end Go.Proofs.YtcfbkabiapaobaaDoor
