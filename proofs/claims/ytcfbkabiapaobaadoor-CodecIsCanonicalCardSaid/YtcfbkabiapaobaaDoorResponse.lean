/- header.Response. -/
import Derived.Test.YtcfbkabiapaobaaDoorHdBase
namespace Go.Proofs.YtcfbkabiapaobaaDoor
open Go.RowKit

section
variable (vs : Int) (rs : List Rg) (A : Option Addr) (c : Nat) (pts : Int) (w : World)
variable (hs : Sl w w.heap.size A (rgCells rs)) (hn : rs.length ≤ maxLen)
include hs hn

set_option maxHeartbeats 1000000 in
theorem response_any (op : Int) :
    Calls Tryd.prog 39 #[.agg #[.int .i64 op, .int .i64 vs, .slice A rs.length c, .int .i64 pts]] w fun e w' => e = .returned (.int .i64 (hresp op vs rs pts)) ∧ Below w.heap.size w w' := by
  have hs' := hide hs; clear hs
  go_enter Tryd.func39, Tryd.ntmps39
  go_wp2_with fail
  refine (check_any vs rs A c pts _ ((hs'.out.below (bl_alloc (Below.refl _ _) _)).more (by simp)) hn op).mono ?_
  rintro e w1 ⟨rfl, hb⟩
  obtain ⟨hcl, hfr⟩ := bcell hb
  by_cases h0 : hcheck op vs rs pts = 0
  · rw [h0]
    by_cases h5 : op = 5
    · subst h5
      have hp := (hcheck_zero h0).2.2.2.2.2.2.1 rfl
      have H0 := hide h0; clear h0
      obtain ⟨hp1, hp2⟩ := hp
      go_wp2
      go_ret
      exact ⟨ret_int (by unfold hresp; rw [if_pos H0.out, if_pos rfl]), bl_step (bl_alloc (Below.refl _ _) _) hb⟩
    · have h5' : (op == 5) = false := by simpa using h5
      have H0 := hide h0; clear h0
      have H5 := hide h5; clear h5
      go_wp2
      go_ret
      exact ⟨ret_int (by unfold hresp; rw [if_pos H0.out, if_neg H5.out]), bl_step (bl_alloc (Below.refl _ _) _) hb⟩
  · have hr : hresp op vs rs pts = 0 := by unfold hresp; rw [if_neg h0]
    have h0' : (hcheck op vs rs pts != 0) = true := by simpa using h0
    generalize hcheck op vs rs pts = x at *
    have H0 := hide h0; clear h0
    have HR := hide hr; clear hr
    go_wp2
    go_ret
    exact ⟨ret_int HR.out.symm, bl_step (bl_alloc (Below.refl _ _) _) hb⟩
end
end Go.Proofs.YtcfbkabiapaobaaDoor
