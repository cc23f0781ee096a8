/- What the rows' list of package-level variables gives, for the table mask.words among others; a world for the witness. -/
import Derived.Test.YthdpbmpdiaencaaDoorCards
import Derived.Test.YthdpbmpdiaencaaDoorTie
import Derived.Test.YthdpbmpdiaencaaDoorOpenWords
import Derived.Test.YthdpbmpdiaencaaDoorMask
import Derived.Deep.DeepLaidRun
namespace Go.Proofs.YthdpbmpdiaencaaDoor
open Go.ChangeShapes Go.WideShapes Go.ChangeAt Go.RowKit

theorem gWords : Tryd.prog.globalNamed "geofence/mask.words" = some 2 := by kernel_rfl
theorem gWordsType : (Tryd.prog.globals[2]?).map (·.type) = some 85 := by kernel_rfl
theorem cellsWords : Tryd.prog.cellsOf 85 = 2 := by kernel_rfl
theorem cellsUint64 : Tryd.prog.cellsOf 33 = 1 := by kernel_rfl

/-- what the row's list gives -/
theorem fixed_of_laid {W : World} (h : laidMetH Tryd.prog [("geofence/mask.words", Rows.laid_geofence_mask_words), ("unicode/utf8.acceptRanges", Rows.laid_unicode_utf8_acceptRanges), ("unicode/utf8.first", Rows.laid_unicode_utf8_first)] W) : MWords W ∧ 2 < W.heap.size := by
  have ht : Lib.TabIs Tryd.prog W "geofence/mask.words" .u64 [9223372036854775808, 18446744073709551615] := Lib.tabIs_of_head (rest := [("unicode/utf8.acceptRanges", Rows.laid_unicode_utf8_acceptRanges), ("unicode/utf8.first", Rows.laid_unicode_utf8_first)]) gWords gWordsType Tryd.underlying85 Tryd.underlying33 cellsUint64 cellsWords h
  have h0 := ht.cell gWords 0 (by decide)
  have h1 := ht.cell gWords 1 (by decide)
  exact ⟨⟨h0, h1⟩, block_lt h0⟩

def litV : DataW Unit → Value
  | .lit (.int k n) => .int k n
  | _ => undef
/-- the cells of a table of numbers, or of structs of numbers -/
def litCells : DataW Unit → List Value
  | .agg ps => ps.flatMap fun
    | .agg qs => qs.map litV
    | x => [litV x]
  | x => [litV x]
def layTable (d : DataW Unit) : Obj → Obj
  | .cells _ t frozen => .cells (litCells d).toArray t frozen
  | o => o
/-- a world for the witness: the settled one, the tables laid -/
noncomputable def laidWorld (os : Os) : World :=
  { World.holding Tryd.prog os ⟨#[], #[], []⟩ with heap := (((World.holding Tryd.prog os ⟨#[], #[], []⟩).heap.modify 2 (layTable Rows.laid_geofence_mask_words)).modify 4 (layTable Rows.laid_unicode_utf8_acceptRanges)).modify 3 (layTable Rows.laid_unicode_utf8_first) }
set_option maxRecDepth 100000 in
theorem open_str {H : Type} {enc : TypeId × Value → H} {W : World} {base : Nat} {v : Value} {d : DataW H} {ps : List MemPlace} (hv : Value.okWide Tryd.prog W .any base 9 v) (h : DataW.Trod enc Tryd.prog W 0 (fun _ => true) true 9 v d ps) :
    ∃ s : ByteArray, v = .string s ∧ s.size ≤ maxLen := by
  obtain ⟨s, rfl, rfl, rfl, hs⟩ := Go.ChangeMaps.open_string Tryd.underlying9 hv h
  exact ⟨s, rfl, hs⟩
end Go.Proofs.YthdpbmpdiaencaaDoor
