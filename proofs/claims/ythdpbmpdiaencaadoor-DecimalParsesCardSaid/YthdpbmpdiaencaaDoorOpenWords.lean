/- Arguments opened: slices of words, strings. -/
import Derived.Test.YthdpbmpdiaencaaDoorOpenBase
import Derived.Test.YthdpbmpdiaencaaDoorLimb3
namespace Go.Proofs.YthdpbmpdiaencaaDoor
open Go.ChangeShapes Go.WideShapes Go.ChangeAt Go.RowKit
section
variable {H : Type} {enc : TypeId × Value → H} {W : World} {base : Nat}
set_option maxRecDepth 100000 in
/-- a []uint64 that came in -/
theorem open_words {v : Value} {d : DataW H} {ps : List MemPlace} (hv : Value.okWide Tryd.prog W .any base 22 v) (h : DataW.Trod enc Tryd.prog W 0 (fun _ => true) true 22 v d ps) :
    ∃ (A : Option Addr) (l : List Int) (c : Nat), v = .slice A l.length c ∧ l.length ≤ c ∧ c ≤ maxLen ∧ Sl W W.heap.size A (uCs l) ∧ L64 l := by
  obtain ⟨a0, len, cap, rfl⟩ := okWide_slice Tryd.underlying22 hv
  obtain ⟨fuel, hf⟩ := h
  rcases open_ints Tryd.underlying22 Tryd.underlying33 (by kernel_rfl) hf with ⟨hcs, _⟩ | ⟨a, len', cap', zs, hcs, _, hl, hm, hz, _, hcell, hwz⟩
  · have e : a0 = none ∧ len = 0 ∧ cap = 0 := by simpa [Value.cells] using hcs
    obtain ⟨rfl, rfl, rfl⟩ := e
    exact ⟨none, [], 0, rfl, Nat.le_refl _, by unfold maxLen; omega, Sl.nil _ _ _, fun x hx => by simp at hx⟩
  · have e : a0 = some a ∧ len = len' ∧ cap = cap' := by simpa [Value.cells] using hcs
    obtain ⟨rfl, rfl, rfl⟩ := e
    simp only [if_true] at hz
    have hlen : (zs.take len).length = len := by rw [List.length_take, hz]; omega
    refine ⟨some a, zs.take len, cap, by rw [hlen], by rw [hlen]; exact hl, hm, ?_, ?_⟩
    · rcases Nat.eq_zero_or_pos len with h0 | h0
      · subst h0; exact .inl (by simp [uCs])
      · obtain ⟨b, off, rfl, hc⟩ := ints_at hcell (by omega)
        refine Sl.mk (block_lt (hc 0 (by omega))) fun j u hu => ?_
        simp only [uCs, List.getElem?_map, List.getElem?_take] at hu
        split at hu
        · rename_i hj
          rw [hc j (by omega), List.getD_eq_getElem?_getD]
          have hjl : j < zs.length := by omega
          rw [List.getElem?_eq_getElem hjl] at hu ⊢
          simpa using hu
        · simp at hu
    · intro x hx
      have hmem : x ∈ zs := List.mem_of_mem_take hx
      have := bounds_u64 (hwz x hmem)
      omega
end
end Go.Proofs.YthdpbmpdiaencaaDoor
