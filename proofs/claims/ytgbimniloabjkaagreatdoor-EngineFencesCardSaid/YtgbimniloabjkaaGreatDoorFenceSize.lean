/- The contracts of the kinds of regions: fence.shapeOf, the two size methods, fence.Size, and the reference's Size. -/
import Derived.Test.YtgbimniloabjkaaGreatDoorWords
namespace Go.Proofs.YtgbimniloabjkaaGreatDoor
open Go.RowKit

def sizeOfReg (v : Int) : Int := if v = 0 then 3 else if 3 ≤ v ∧ v ≤ 64 then v else 0

set_option maxHeartbeats 400000 in
theorem shapeOf_zero (d : Bool) (A : Option Addr) (n c : Nat) (w : World) :
    Calls Tryz.prog 73 #[.agg #[.bool d, .int .i64 0, .slice A n c]] w fun e w' => e = .returned (.iface 147 (.agg #[.bool d, .int .i64 0, .slice A n c])) ∧ Below w.heap.size w w' := by
  go_enter Tryz.func73, Tryz.ntmps73
  go_wp2
  go_ret
  exact ⟨rfl, (Below.refl _ _).alloc (Nat.le_refl _) _⟩

set_option maxHeartbeats 400000 in
theorem shapeOf_other (d : Bool) (v : Int) (hv : (v == 0) = false) (A : Option Addr) (n c : Nat) (w : World) :
    Calls Tryz.prog 73 #[.agg #[.bool d, .int .i64 v, .slice A n c]] w fun e w' => e = .returned (.iface 148 (.agg #[.bool d, .int .i64 v, .slice A n c])) ∧ Below w.heap.size w w' := by
  go_enter Tryz.func73, Tryz.ntmps73
  go_wp2
  go_ret
  exact ⟨rfl, (Below.refl _ _).alloc (Nat.le_refl _) _⟩


set_option maxHeartbeats 400000 in
theorem refSize_any (v : Int) (w : World) :
    Calls Tryz.prog 38 #[.int .i64 v] w fun e w' => e = .returned (.int .i64 (sizeOfReg v)) ∧ w = w' := by
  go_enter Tryz.func38, Tryz.ntmps38
  go_wp2
  all_goals go_ret
  · have h : (v == 0) = true := by assumption
    have h0 : v = 0 := by simpa using h
    exact ⟨ret_int (by simp [sizeOfReg, h0]), rfl⟩
  all_goals
    have h : (v == 0) = false := by assumption
    have h0 : v ≠ 0 := by simpa using h
    exact ⟨ret_int (by unfold sizeOfReg; rw [if_neg h0]; first | rw [if_pos ⟨by assumption, by assumption⟩] | rw [if_neg (by omega)]), rfl⟩

set_option maxHeartbeats 400000 in
theorem roundSize (d : Bool) (v : Int) (A : Option Addr) (n c : Nat) (w : World) :
    Calls Tryz.prog 147 #[.agg #[.bool d, .int .i64 v, .slice A n c]] w fun e w' => e = .returned (.int .i64 3) ∧ Below w.heap.size w w' := by
  go_enter Tryz.func147, Tryz.ntmps147
  go_wp2
  go_ret
  exact ⟨rfl, (Below.refl _ _).alloc (Nat.le_refl _) _⟩

set_option maxHeartbeats 400000 in
theorem convexSize (d : Bool) (v : Int) (A : Option Addr) (n c : Nat) (w : World) (hv : v ≠ 0) :
    Calls Tryz.prog 154 #[.agg #[.bool d, .int .i64 v, .slice A n c]] w fun e w' => e = .returned (.int .i64 (sizeOfReg v)) ∧ Below w.heap.size w w' := by
  go_enter Tryz.func154, Tryz.ntmps154
  go_wp2
  all_goals go_ret
  all_goals exact ⟨ret_int (by unfold sizeOfReg; rw [if_neg hv]; first | rw [if_pos ⟨by omega, by omega⟩] | rw [if_neg (by omega)]), (Below.refl _ _).alloc (Nat.le_refl _) _⟩

theorem meth_round (d : Bool) (v : Int) (A : Option Addr) (n c : Nat) (w : World) : (method 309 147 (.agg #[.bool d, .int .i64 v, .slice A n c]) "geofence/fence.size").run Tryz.prog w = .ok (147, .agg #[.bool d, .int .i64 v, .slice A n c]) w := by kernel_rfl
theorem meth_convex (d : Bool) (v : Int) (A : Option Addr) (n c : Nat) (w : World) : (method 309 148 (.agg #[.bool d, .int .i64 v, .slice A n c]) "geofence/fence.size").run Tryz.prog w = .ok (154, .agg #[.bool d, .int .i64 v, .slice A n c]) w := by kernel_rfl

set_option maxHeartbeats 400000 in
theorem size_any (d : Bool) (v : Int) (A : Option Addr) (n c : Nat) (w : World) :
    Calls Tryz.prog 43 #[.agg #[.bool d, .int .i64 v, .slice A n c]] w fun e w' => e = .returned (.int .i64 (sizeOfReg v)) ∧ Below w.heap.size w w' := by
  have hmr := meth_round
  have hmc := meth_convex
  go_enter Tryz.func43, Tryz.ntmps43
  by_cases h0 : v = 0
  · subst h0
    go_wp2_with fail
    refine (shapeOf_zero _ _ _ _ _).mono ?_
    rintro e w1 ⟨rfl, hb⟩
    go_wp2_with fail
    refine (roundSize _ _ _ _ _ _).mono ?_
    rintro e w2 ⟨rfl, hb2⟩
    go_wp2
    go_ret
    exact ⟨rfl, ((Below.refl _ _).alloc (Nat.le_refl _) _).trans ((hb.mono (by simp)).trans (hb2.mono (by have := hb.size; simp at this; omega)))⟩
  · have hv : (v == 0) = false := by simpa using h0
    go_wp2_with fail
    refine (shapeOf_other _ _ hv _ _ _ _).mono ?_
    rintro e w1 ⟨rfl, hb⟩
    go_wp2_with fail
    refine (convexSize _ _ _ _ _ _ h0).mono ?_
    rintro e w2 ⟨rfl, hb2⟩
    go_wp2
    go_ret
    exact ⟨rfl, ((Below.refl _ _).alloc (Nat.le_refl _) _).trans ((hb.mono (by simp)).trans (hb2.mono (by have := hb.size; simp at this; omega)))⟩

end Go.Proofs.YtgbimniloabjkaaGreatDoor
