/- The reference's comparison of integers; whether a slice is an integer. -/
import Derived.Test.YthdpbmpdiaencaaDoorLimb3
namespace Go.Proofs.YthdpbmpdiaencaaDoor
open Go.RowKit

set_option maxRecDepth 100000 in
set_option maxHeartbeats 1000000 in
theorem sameU_true (l : List Int) (A B : Option Addr) (c d : Nat) (w : World) (hA : Sl w w.heap.size A (uCs l)) (hB : Sl w w.heap.size B (uCs l)) (hl : l.length ≤ 1000) :
    Calls Tryd.prog 14 #[.slice A l.length c, .slice B l.length d] w fun e w' => e = .returned (.bool true) ∧ Below w.heap.size w w' := by
  have HA := hide hA; have HB := hide hB
  clear hA hB
  go_enter Tryd.func14, Tryd.ntmps14
  go_wp2
  go_loopw [5] (fun i wr => ∃ k : Nat, k ≤ l.length ∧ i = .int .i64 k ∧ Below w.heap.size w wr)
    (fun i _ => l.length - (intOf i).toNat)
  case atStart => exact ⟨0, by omega, rfl, Below.refl _ _⟩
  case round =>
    obtain ⟨k, hk, rfl, hb⟩ := hrel
    by_cases hlt : k < l.length
    · obtain ⟨x, hx⟩ : ∃ x, l[k]? = some x := ⟨_, List.getElem?_eq_getElem hlt⟩
      obtain ⟨b1, o1, rfl, _, h1⟩ := (HA.out.below hb).u (by omega)
      obtain ⟨b2, o2, rfl, _, h2⟩ := (HB.out.below hb).u (by omega)
      have c1 := h1 k x hx
      have c2 := h2 k x hx
      have hkl : (k : Int) < (l.length : Int) := by omega
      have hk0 : (0 : Int) ≤ (k : Int) := by omega
      clear h1 h2 hx
      go_wp2
      go_quiet (fail)
      go_wp2
      go_roundw
      case rel => exact ⟨k + 1, by omega, by go_num, bl_drewN hb _⟩
      case measure => simp [intOf]; omega
    · obtain rfl : k = l.length := by omega
      go_wp2
      go_ret
      exact ⟨rfl, hb⟩
set_option maxRecDepth 100000 in
theorem isU_any (A : Option Addr) (n c : Nat) (w : World) : Calls Tryd.prog 15 #[.slice A n c] w fun e w' => e = .returned (.bool (decide (1 ≤ n ∧ n ≤ 8))) ∧ w = w' := by
  by_cases h1 : 1 ≤ n
  · by_cases h8 : n ≤ 8
    · rw [decide_eq_true ⟨h1, h8⟩]
      have a1 : (1 : Int) ≤ (n : Int) := by omega
      have a8 : (n : Int) ≤ 8 := by omega
      go_enter Tryd.func15, Tryd.ntmps15
      go_wp2
      go_ret
      exact ⟨rfl, rfl⟩
    · rw [decide_eq_false fun h => h8 h.2]
      have a1 : (1 : Int) ≤ (n : Int) := by omega
      have a8 : ¬ (n : Int) ≤ 8 := by omega
      go_enter Tryd.func15, Tryd.ntmps15
      go_wp2
      go_ret
      exact ⟨rfl, rfl⟩
  · rw [decide_eq_false fun h => h1 h.1]
    have a1 : ¬ (1 : Int) ≤ (n : Int) := by omega
    go_enter Tryd.func15, Tryd.ntmps15
    go_wp2
    go_ret
    exact ⟨rfl, rfl⟩
end Go.Proofs.YthdpbmpdiaencaaDoor
