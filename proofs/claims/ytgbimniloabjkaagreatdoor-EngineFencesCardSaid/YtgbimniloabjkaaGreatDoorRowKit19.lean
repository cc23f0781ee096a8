/- What the rows' list of package-level variables gives, for the table mask.words; a world for the witness. -/
import Derived.Test.YtgbimniloabjkaaGreatDoorCards
import Derived.Test.YtgbimniloabjkaaGreatDoorTie
import Derived.Test.YtgbimniloabjkaaGreatDoorOpen
import Derived.Test.YtgbimniloabjkaaGreatDoorPoly
namespace Go.Proofs.YtgbimniloabjkaaGreatDoor
open Go.ChangeShapes Go.WideShapes Go.ChangeAt Go.RowKit

theorem gWords : Tryz.prog.globalNamed "geofence/mask.words" = some 0 := by kernel_rfl
theorem gWordsType : (Tryz.prog.globals[0]?).map (·.type) = some 131 := by kernel_rfl
theorem cellsWords : Tryz.prog.cellsOf 131 = 2 := by kernel_rfl
theorem cellsUint64 : Tryz.prog.cellsOf 74 = 1 := by kernel_rfl

/-- what the row's list gives -/
theorem fixed_of_laid {W : World} (h : laidMetH Tryz.prog [("geofence/mask.words", Rows.laid_geofence_mask_words)] W) : MWords W ∧ 0 < W.heap.size := by
  have ht : Lib.TabIs Tryz.prog W "geofence/mask.words" .u64 [9223372036854775808, 18446744073709551615] := Lib.tabIs_of_head (rest := []) gWords gWordsType Tryz.underlying131 Tryz.underlying74 cellsUint64 cellsWords h
  have h0 := ht.cell gWords 0 (by decide)
  have h1 := ht.cell gWords 1 (by decide)
  exact ⟨⟨h0, h1⟩, block_lt h0⟩
theorem psJ_of {ps : List Pt} (h : ∀ p ∈ ps, I64 p.1 ∧ I64 p.2) : PsJ ps := fun p hp => by
  have := h p hp
  unfold I64 at this
  exact ⟨⟨this.1.1, by omega⟩, this.2.1, by omega⟩

/-- a world for the witness: the settled one, the table laid -/
noncomputable def laidWorld (os : Os) : World :=
  { World.holding Tryz.prog os ⟨#[], #[], []⟩ with heap := (World.holding Tryz.prog os ⟨#[], #[], []⟩).heap.modify 0 fun
      | .cells _ t frozen => .cells #[.int .u64 9223372036854775808, .int .u64 18446744073709551615] t frozen
      | o => o }
end Go.Proofs.YtgbimniloabjkaaGreatDoor
