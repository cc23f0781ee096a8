/- For rows of a seat that lists no table: a world for the witness; bytes as the walks name them. -/
import Derived.Test.YtcfbkabiapaobaaOpen
import Derived.Test.YtcfbkabiapaobaaReader
namespace Go.Proofs.Ytcfbkabiapaobaa
open Go.ChangeShapes Go.WideShapes Go.ChangeAt Go.RowKit

noncomputable def laidWorld (os : Os) : World := World.holding Try.prog os ⟨#[], #[], []⟩
theorem by_of {bs : List Int} (h : ∀ (j : Nat) (x : Int), bs[j]? = some x → 0 ≤ x ∧ x ≤ 255) : By bs := by
  intro x hx
  obtain ⟨j, hj⟩ := List.mem_iff_getElem?.1 hx
  exact h j x hj
end Go.Proofs.Ytcfbkabiapaobaa
