/- A []byte that came in, with its datum (for the reach). -/
import Derived.Test.YtnnglpohkhjggaaDoorFrame
import Derived.SizedLaws
namespace Go.Proofs.YtnnglpohkhjggaaDoor
open Go.ChangeShapes Go.WideShapes Go.ChangeAt Go.RowKit

theorem bytesOfU8 : Tryd.prog.bytesOf 5 = 1 := by kernel_rfl
section
variable {H : Type} {enc : TypeId × Value → H} {W : World} {base : Nat}
theorem open_bytes_sized {v : Value} {d : DataW H} {ps : List MemPlace} (hv : Value.okWide Tryd.prog W .any base 22 v) (h : DataW.Trod enc Tryd.prog W 0 (fun _ => true) true 22 v d ps) :
    ∃ (A : Option Addr) (bs : List Int) (c : Nat), v = .slice A bs.length c ∧ bs.length ≤ c ∧ c ≤ maxLen ∧ Sl W W.heap.size A (bs.map (Value.int .u8)) ∧ (∀ (j : Nat) (x : Int), bs[j]? = some x → 0 ≤ x ∧ x ≤ 255) ∧
      ((A = none ∧ bs = [] ∧ c = 0) ∨ (A ≠ none ∧ ∃ elems spare : List (DataW H), d = .slice elems spare ∧ elems.length = bs.length)) := by
  obtain ⟨a0, len, cap, rfl⟩ := okWide_slice Tryd.underlying22 hv
  have hh := h
  obtain ⟨fuel, hf⟩ := h
  rcases open_ints Tryd.underlying22 Tryd.underlying5 (by kernel_rfl) hf with ⟨hcs, _⟩ | ⟨a, len', cap', zs, hcs, _, hl, hm, hz, hx, hcell, hwz⟩
  · have e : a0 = none ∧ len = 0 ∧ cap = 0 := by simpa [Value.cells] using hcs
    obtain ⟨rfl, rfl, rfl⟩ := e
    exact ⟨none, [], 0, rfl, Nat.le_refl _, by unfold maxLen; omega, Sl.nil _ _ _, fun j x hx => by simp at hx, .inl ⟨rfl, rfl, rfl⟩⟩
  · have e : a0 = some a ∧ len = len' ∧ cap = cap' := by simpa [Value.cells] using hcs
    obtain ⟨rfl, rfl, rfl⟩ := e
    obtain ⟨A, bs, c, hvv, h1, h2, h3, h4⟩ := open_bytes hv hh
    refine ⟨A, bs, c, hvv, h1, h2, h3, h4, .inr ⟨(by rintro rfl; cases hvv), _, _, congrArg (·.1) hx, ?_⟩⟩
    injection hvv with _ hlen _
    have hz' : zs.length = cap := by simpa using hz
    rw [← hlen]
    simp only [lits, List.length_map, List.length_take]
    omega

/-- the reach of such a slice -/
theorem bytes_reach {ts : List TypeId} {ds : List (DataW H)} (h : (DataW.weightsEach Tryd.prog ts ds).all (· ≤ reachBytes) = true) {j : Nat} {d : DataW H} {A : Option Addr} {bs : List Int} {c : Nat} (ht : ts[j]? = some 22) (hd : ds[j]? = some d)
    (hb : (A = none ∧ bs = [] ∧ c = 0) ∨ (A ≠ none ∧ ∃ elems spare : List (DataW H), d = .slice elems spare ∧ elems.length = bs.length)) : bs.length ≤ 140737488351232 := by
  rcases hb with ⟨_, rfl, _⟩ | ⟨_, elems, spare, rfl, hl⟩
  · simp
  · have := sized_slice h ht hd Tryd.underlying22
    rw [bytesOfU8] at this
    simp only [reachBytes] at this
    omega
end
end Go.Proofs.YtnnglpohkhjggaaDoor
