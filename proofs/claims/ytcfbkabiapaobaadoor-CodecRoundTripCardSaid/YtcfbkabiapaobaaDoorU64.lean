/- Numbers in 64 bits; blocks that are kept. -/
import Derived.Test.YtcfbkabiapaobaaDoorWriter2
namespace Go.Proofs.YtcfbkabiapaobaaDoor
open Go.RowKit

/-- a number in 64 bits without a sign -/
def U64 (x : Int) : Prop := 0 ≤ x ∧ x < 18446744073709551616
theorem U64.nonneg {x : Int} (h : U64 x) : 0 ≤ x := h.1
theorem u64w_u64 (x : Int) : U64 (IntKind.u64.wrap x) := by unfold U64; rw [IntKind.wrap_u64]; omega
theorem U64.div {x : Int} (h : U64 x) (k : Nat) : U64 (x / 256 ^ k) := by
  refine ⟨Int.ediv_nonneg h.1 (Int.pow_nonneg (by omega)), Int.lt_of_le_of_lt (Int.ediv_le_self _ h.1) h.2⟩
theorem U64.quo {z : Int} (h : U64 z) : IntKind.u64.wrap (z.tdiv 256) = z / 256 := by
  rw [Int.tdiv_eq_ediv_of_nonneg h.1, IntKind.wrap_u64, Int.emod_eq_of_lt (Int.ediv_nonneg h.1 (by omega)) (Int.lt_of_le_of_lt (Int.ediv_le_self _ h.1) h.2)]
theorem keepPt {R : Nat → Prop} {w0 wk w' : World} {b : Nat} {u v : Value} (hR : R b) (hk : KeepP R wk w') (h : KeepP R w0 wk ∧ wk.cell? ⟨b, 0, none⟩ = some u ∧ wk.cell? ⟨b, 1, none⟩ = some v) :
    KeepP R w0 w' ∧ w'.cell? ⟨b, 0, none⟩ = some u ∧ w'.cell? ⟨b, 1, none⟩ = some v :=
  ⟨h.1.trans hk, (hk.cell hR _).trans h.2.1, (hk.cell hR _).trans h.2.2⟩
theorem KeepP.drew (P : Nat → Prop) (w : World) : KeepP P w w.drew := ⟨rfl, rfl, rfl, Nat.le_refl _, fun _ _ => rfl⟩
theorem div256_succ (x : Int) (k : Nat) : x / 256 ^ k / 256 = x / 256 ^ (k + 1) := by
  rw [Int.pow_succ, Int.ediv_ediv_of_nonneg (Int.pow_nonneg (by omega))]
end Go.Proofs.YtcfbkabiapaobaaDoor
