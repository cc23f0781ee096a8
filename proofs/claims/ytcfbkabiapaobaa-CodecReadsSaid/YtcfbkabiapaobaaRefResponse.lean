/- The reference's Response. -/
import Derived.Test.YtcfbkabiapaobaaResponse
namespace Go.Proofs.Ytcfbkabiapaobaa
open Go.RowKit

section
variable (op vs pts : Int) (rs : List Rg) (A : Option Addr) (c : Nat) (w : World) (hz : hcheck op vs rs pts = 0)
include hz
set_option maxRecDepth 100000 in
set_option maxHeartbeats 1000000 in
theorem rresponse_any :
    Calls Try.prog 34 #[.agg #[.int .i64 op, .int .i64 vs, .slice A rs.length c, .int .i64 pts]] w fun e w' => e = .returned (.int .i64 (hresp op vs rs pts)) ∧ Below w.heap.size w w' := by
  have hp := (hcheck_zero hz).2.2.2.2.2.2.1
  have hr : hresp op vs rs pts = if op = 5 then 4 + pts * 9 else 2 := by unfold hresp; rw [if_pos hz]
  have HZ := hide hz; clear hz
  have HR := hide hr; clear hr
  by_cases h5 : op = 5
  · obtain ⟨hp1, hp2⟩ := hp h5
    clear hp
    subst h5
    go_enter Try.func34, Try.ntmps34
    go_wp2
    go_ret
    exact ⟨ret_int (by rw [HR.out, if_pos trivial]; omega), bl_alloc (Below.refl _ _) _⟩
  · have h5' : (op == 5) = false := by simpa using h5
    clear hp
    have H5 := hide h5; clear h5
    go_enter Try.func34, Try.ntmps34
    go_wp2
    go_ret
    exact ⟨ret_int (by rw [HR.out, if_neg H5.out]), bl_alloc (Below.refl _ _) _⟩
end
end Go.Proofs.Ytcfbkabiapaobaa
