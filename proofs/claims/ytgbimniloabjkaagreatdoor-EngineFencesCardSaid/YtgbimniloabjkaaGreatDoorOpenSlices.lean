/- Arguments opened: lists of points, of regions. -/
import Derived.Test.YtgbimniloabjkaaGreatDoorOpen
import Derived.Test.YtgbimniloabjkaaGreatDoorEncode
namespace Go.Proofs.YtgbimniloabjkaaGreatDoor
open Go.ChangeShapes Go.WideShapes Go.ChangeAt Go.RowKit
section
variable {H : Type} {enc : TypeId × Value → H} {W : World}
set_option maxRecDepth 100000 in
theorem open_points {base : Nat} {v : Value} {d : DataW H} {ps : List MemPlace} (hv : Value.okWide Tryz.prog W .any base 25 v) (h : DataW.Trod enc Tryz.prog W 0 (fun _ => true) true 25 v d ps) :
    ∃ (A : Option Addr) (pl : List (Int × Int)) (c : Nat), v = .slice A pl.length c ∧ pl.length ≤ c ∧ c ≤ maxLen ∧ Sl W W.heap.size A (ptCs pl) ∧ (∀ p ∈ pl, I64 p.1 ∧ I64 p.2) := by
  obtain ⟨a0, len, cap, rfl⟩ := okWide_slice Tryz.underlying25 hv
  obtain ⟨fuel, hf⟩ := h
  obtain ⟨A, pl, c, e, h1, h2, h3, h4⟩ := trod_points hf
  have e' : a0 = A ∧ len = pl.length ∧ cap = c := by simpa [Value.cells] using e
  obtain ⟨rfl, rfl, rfl⟩ := e'
  exact ⟨a0, pl, cap, rfl, h1, h2, h3, h4⟩
set_option maxRecDepth 100000 in
theorem open_regions {base : Nat} {v : Value} {d : DataW H} {ps : List MemPlace} (hv : Value.okWide Tryz.prog W .any base 22 v) (h : DataW.Trod enc Tryz.prog W 0 (fun _ => true) true 22 v d ps) :
    ∃ (A : Option Addr) (gs : List Gr) (c : Nat), v = .slice A gs.length c ∧ gs.length ≤ c ∧ c ≤ maxLen ∧ Sl W W.heap.size A (rgCells (gs.map (·.1))) ∧ GsOk W W.heap.size gs ∧ (∀ g ∈ gs, ∀ p ∈ g.2, I64 p.1 ∧ I64 p.2) := by
  obtain ⟨a0, len, cap, rfl⟩ := okWide_slice Tryz.underlying22 hv
  obtain ⟨fuel, hf⟩ := h
  obtain ⟨A, gs, c, e, h1, h2, h3, h4⟩ := trod_regions hf
  have e' : a0 = A ∧ len = gs.length ∧ cap = c := by simpa [Value.cells] using e
  obtain ⟨rfl, rfl, rfl⟩ := e'
  exact ⟨a0, gs, cap, rfl, h1, h2, h3, fun g hg => ⟨(h4 g hg).2.1, (h4 g hg).2.2.2.2.1⟩, fun g hg => (h4 g hg).2.2.2.2.2⟩
end
end Go.Proofs.YtgbimniloabjkaaGreatDoor
