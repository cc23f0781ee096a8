/- codec.counts and the reference's Counts: the numbers of points and queries that a header prescribes. -/
import Derived.Test.YtgbimniloabjkaaGreatDoorHdBase
import Derived.Deep.QuietTactic
import Derived.BigQuiet
namespace Go.Proofs.YtgbimniloabjkaaGreatDoor
open Go.RowKit

def cntP (op vs : Int) : Int := if op = 1 then 3 else if op = 2 then 4 else if op = 3 then vs + 1 else if op = 4 then 1 else 0
def cntQ (op pts : Int) : Int := if op = 1 ∨ op = 2 ∨ op = 3 ∨ op = 4 then 0 else pts

section
variable (op vs pts : Int) (hA : Value) (w : World) (h0 : -1000 ≤ vs) (h1 : vs ≤ 1000)
include h0 h1
def CntOut (n m : Int) (w : World) (e : Ending) (w' : World) : Prop := e = .returned (.tuple #[.int .i64 n, .int .i64 m]) ∧ Below w.heap.size w w'
set_option maxHeartbeats 1000000 in
theorem counts_any (A : Option Addr) (n c : Nat) : Calls Tryz.prog 42 #[.agg #[.int .i64 op, .int .i64 vs, .slice A n c, .int .i64 pts]] w (CntOut (cntP op vs) (cntQ op pts) w) := by
  by_cases e1 : op = 1
  · subst e1
    go_enter Tryz.func42, Tryz.ntmps42
    go_wp2
    go_ret2
    exact ⟨rfl, bl_alloc (Below.refl _ _) _⟩
  by_cases e2 : op = 2
  · subst e2
    go_enter Tryz.func42, Tryz.ntmps42
    go_wp2
    go_ret2
    exact ⟨rfl, bl_alloc (Below.refl _ _) _⟩
  by_cases e3 : op = 3
  · subst e3
    go_enter Tryz.func42, Tryz.ntmps42
    go_wp2
    go_ret2
    exact ⟨rfl, bl_alloc (Below.refl _ _) _⟩
  by_cases e4 : op = 4
  · subst e4
    go_enter Tryz.func42, Tryz.ntmps42
    go_wp2
    go_ret2
    exact ⟨rfl, bl_alloc (Below.refl _ _) _⟩
  · have hp : cntP op vs = 0 := by unfold cntP; rw [if_neg e1, if_neg e2, if_neg e3, if_neg e4]
    have hq : cntQ op pts = pts := by unfold cntQ; rw [if_neg (by omega)]
    rw [hp, hq]
    clear hp hq
    go_enter Tryz.func42, Tryz.ntmps42
    go_wp2
    go_quiet (fail)
    go_wp2
    go_ret2
    exact ⟨rfl, below_drewN (bl_alloc (Below.refl _ _) _) _⟩
end
end Go.Proofs.YtgbimniloabjkaaGreatDoor
