/- codec's counts, as the reference has them. -/
import Derived.Test.YtgbimniloabjkaaGreatDoorCounts
namespace Go.Proofs.YtgbimniloabjkaaGreatDoor
open Go.RowKit
section
variable (op vs pts : Int) (hA : Value) (w : World) (h0 : -1000 ≤ vs) (h1 : vs ≤ 1000)
include h0 h1
set_option maxHeartbeats 1000000 in
theorem rcounts_any (A : Option Addr) (n c : Nat) : Calls Tryz.prog 55 #[.agg #[.int .i64 op, .int .i64 vs, .slice A n c, .int .i64 pts]] w (CntOut (cntP op vs) (cntQ op pts) w) := by
  by_cases e1 : op = 1
  · subst e1
    go_enter Tryz.func55, Tryz.ntmps55
    go_wp2
    go_ret2
    exact ⟨rfl, bl_alloc (Below.refl _ _) _⟩
  by_cases e2 : op = 2
  · subst e2
    go_enter Tryz.func55, Tryz.ntmps55
    go_wp2
    go_ret2
    exact ⟨rfl, bl_alloc (Below.refl _ _) _⟩
  by_cases e3 : op = 3
  · subst e3
    go_enter Tryz.func55, Tryz.ntmps55
    go_wp2
    go_ret2
    exact ⟨rfl, bl_alloc (Below.refl _ _) _⟩
  by_cases e4 : op = 4
  · subst e4
    go_enter Tryz.func55, Tryz.ntmps55
    go_wp2
    go_ret2
    exact ⟨rfl, bl_alloc (Below.refl _ _) _⟩
  · have hp : cntP op vs = 0 := by unfold cntP; rw [if_neg e1, if_neg e2, if_neg e3, if_neg e4]
    have hq : cntQ op pts = pts := by unfold cntQ; rw [if_neg (by omega)]
    rw [hp, hq]
    clear hp hq
    go_enter Tryz.func55, Tryz.ntmps55
    go_wp2
    go_quiet (fail)
    go_wp2
    go_ret2
    exact ⟨rfl, below_drewN (bl_alloc (Below.refl _ _) _) _⟩
end
end Go.Proofs.YtgbimniloabjkaaGreatDoor
