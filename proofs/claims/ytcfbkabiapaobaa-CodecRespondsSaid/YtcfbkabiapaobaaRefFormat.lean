/- The reference's Format: the same function of the header. -/
import Derived.Test.YtcfbkabiapaobaaFormat2
import Derived.Test.YtcfbkabiapaobaaHdMath
namespace Go.Proofs.Ytcfbkabiapaobaa
open Go.RowKit

/-- the error of a header whose counts are known -/
theorem hformat_err {op vs pts : Int} {rs : List Rg} {e : Int} (h : hcheck op vs rs pts = e) (he : e ≠ 0) : hformat op vs rs pts = ([], e) := by unfold hformat; rw [h, if_neg he]
theorem formatted_err {op vs pts : Int} {rs : List Rg} {e : Int} {w w' : World} (h : hcheck op vs rs pts = e) (he : e ≠ 0) (hb : Below w.heap.size w w') :
    Formatted (hformat op vs rs pts) w (.returned (.tuple #[.slice none 0 0, .int .i64 e])) w' := by
  rw [hformat_err h he]
  exact ⟨_, rfl, World.ownsRow_nil _ _ _ _, hb⟩

section
variable (vs : Int) (rs : List Rg) (A : Option Addr) (c : Nat) (pts : Int) (w : World)

set_option maxRecDepth 100000 in
set_option maxHeartbeats 2000000 in
theorem rformat_bad (op : Int) (hop : op < 1 ∨ 5 < op) :
    Calls Try.prog 24 #[.agg #[.int .i64 op, .int .i64 vs, .slice A rs.length c, .int .i64 pts]] w (Formatted (hformat op vs rs pts) w) := by
  have hr : hcheck op vs rs pts = 5 := by unfold hcheck hcheckB; rw [if_pos hop]
  have HR := hide hr; clear hr
  rcases hop with hop | hop
  all_goals
    go_enter Try.func24, Try.ntmps24
    go_wp2
    go_ret2
    exact formatted_err HR.out (by omega) (bl_alloc (Below.refl _ _) _)

variable (hs : Sl w w.heap.size A (rgCells rs)) (hn : rs.length ≤ maxLen)

set_option maxRecDepth 100000 in
set_option maxHeartbeats 2000000 in
theorem rformat_1_vs (hv : vs ≠ 0) :
    Calls Try.prog 24 #[.agg #[.int .i64 1, .int .i64 vs, .slice A rs.length c, .int .i64 pts]] w (Formatted (hformat 1 vs rs pts) w) := by
  have hr : hcheck 1 vs rs pts = 2 := by
    unfold hcheck hcheckB
    repeat first | rw [if_neg (by omega)] | rw [if_pos (by omega)] | rw [cond_true] | rw [cond_false] | rw [decide_eq_true (by omega), Bool.true_and] | rw [decide_eq_false (by omega), Bool.false_and]
  have HR := hide hr; clear hr
  have hv' : (vs != 0) = true := by rw [bne_iff_ne]; exact hv
  have HV := hide hv; clear hv
  go_enter Try.func24, Try.ntmps24
  go_wp2
  go_ret2
  exact formatted_err HR.out (by omega) (bl_alloc (Below.refl _ _) _)

set_option maxRecDepth 100000 in
set_option maxHeartbeats 2000000 in
theorem rformat_1_rs (hv : vs = 0) (hl : 0 < rs.length) :
    Calls Try.prog 24 #[.agg #[.int .i64 1, .int .i64 vs, .slice A rs.length c, .int .i64 pts]] w (Formatted (hformat 1 vs rs pts) w) := by
  have hr : hcheck 1 vs rs pts = 2 := by
    unfold hcheck hcheckB
    repeat first | rw [if_neg (by omega)] | rw [if_pos (by omega)] | rw [cond_true] | rw [cond_false] | rw [decide_eq_true (by omega), Bool.true_and] | rw [decide_eq_false (by omega), Bool.false_and]
  have HR := hide hr; clear hr
  have hv' : (vs != 0) = false := by rw [bne_eq_false_iff_eq]; exact hv
  have HV := hide hv; clear hv
  have hl' : decide (0 < rs.length) = true := decide_eq_true hl
  go_enter Try.func24, Try.ntmps24
  go_wp2
  go_ret2
  exact formatted_err HR.out (by omega) (bl_alloc (Below.refl _ _) _)

set_option maxRecDepth 100000 in
set_option maxHeartbeats 2000000 in
theorem rformat_1_pt (hv : vs = 0) (hl : rs = []) (hp : pts ≠ 0) :
    Calls Try.prog 24 #[.agg #[.int .i64 1, .int .i64 vs, .slice A rs.length c, .int .i64 pts]] w (Formatted (hformat 1 vs rs pts) w) := by
  have hr : hcheck 1 vs rs pts = 2 := by
    unfold hcheck hcheckB
    repeat first | rw [if_neg (by omega)] | rw [if_pos (by omega)] | rw [cond_true] | rw [cond_false] | rw [decide_eq_true (by omega), Bool.true_and] | rw [decide_eq_false (by omega), Bool.false_and]
  have HR := hide hr; clear hr
  have hv' : (vs != 0) = false := by rw [bne_eq_false_iff_eq]; exact hv
  have HV := hide hv; clear hv
  subst hl
  have hp' : (pts != 0) = true := by rw [bne_iff_ne]; exact hp
  have HP := hide hp; clear hp
  go_enter Try.func24, Try.ntmps24
  go_wp2
  go_ret2
  exact formatted_err HR.out (by omega) (bl_alloc (Below.refl _ _) _)

set_option maxRecDepth 100000 in
set_option maxHeartbeats 2000000 in
theorem rformat_2_vs (hv : vs ≠ 0) :
    Calls Try.prog 24 #[.agg #[.int .i64 2, .int .i64 vs, .slice A rs.length c, .int .i64 pts]] w (Formatted (hformat 2 vs rs pts) w) := by
  have hr : hcheck 2 vs rs pts = 2 := by
    unfold hcheck hcheckB
    repeat first | rw [if_neg (by omega)] | rw [if_pos (by omega)] | rw [cond_true] | rw [cond_false] | rw [decide_eq_true (by omega), Bool.true_and] | rw [decide_eq_false (by omega), Bool.false_and]
  have HR := hide hr; clear hr
  have hv' : (vs != 0) = true := by rw [bne_iff_ne]; exact hv
  have HV := hide hv; clear hv
  go_enter Try.func24, Try.ntmps24
  go_wp2
  go_ret2
  exact formatted_err HR.out (by omega) (bl_alloc (Below.refl _ _) _)

set_option maxRecDepth 100000 in
set_option maxHeartbeats 2000000 in
theorem rformat_2_rs (hv : vs = 0) (hl : 0 < rs.length) :
    Calls Try.prog 24 #[.agg #[.int .i64 2, .int .i64 vs, .slice A rs.length c, .int .i64 pts]] w (Formatted (hformat 2 vs rs pts) w) := by
  have hr : hcheck 2 vs rs pts = 2 := by
    unfold hcheck hcheckB
    repeat first | rw [if_neg (by omega)] | rw [if_pos (by omega)] | rw [cond_true] | rw [cond_false] | rw [decide_eq_true (by omega), Bool.true_and] | rw [decide_eq_false (by omega), Bool.false_and]
  have HR := hide hr; clear hr
  have hv' : (vs != 0) = false := by rw [bne_eq_false_iff_eq]; exact hv
  have HV := hide hv; clear hv
  have hl' : decide (0 < rs.length) = true := decide_eq_true hl
  go_enter Try.func24, Try.ntmps24
  go_wp2
  go_ret2
  exact formatted_err HR.out (by omega) (bl_alloc (Below.refl _ _) _)

set_option maxRecDepth 100000 in
set_option maxHeartbeats 2000000 in
theorem rformat_2_pt (hv : vs = 0) (hl : rs = []) (hp : pts ≠ 0) :
    Calls Try.prog 24 #[.agg #[.int .i64 2, .int .i64 vs, .slice A rs.length c, .int .i64 pts]] w (Formatted (hformat 2 vs rs pts) w) := by
  have hr : hcheck 2 vs rs pts = 2 := by
    unfold hcheck hcheckB
    repeat first | rw [if_neg (by omega)] | rw [if_pos (by omega)] | rw [cond_true] | rw [cond_false] | rw [decide_eq_true (by omega), Bool.true_and] | rw [decide_eq_false (by omega), Bool.false_and]
  have HR := hide hr; clear hr
  have hv' : (vs != 0) = false := by rw [bne_eq_false_iff_eq]; exact hv
  have HV := hide hv; clear hv
  subst hl
  have hp' : (pts != 0) = true := by rw [bne_iff_ne]; exact hp
  have HP := hide hp; clear hp
  go_enter Try.func24, Try.ntmps24
  go_wp2
  go_ret2
  exact formatted_err HR.out (by omega) (bl_alloc (Below.refl _ _) _)

set_option maxRecDepth 100000 in
set_option maxHeartbeats 2000000 in
theorem rformat_1_ok (hv : vs = 0) (hl : rs = []) (hp : pts = 0) :
    Calls Try.prog 24 #[.agg #[.int .i64 1, .int .i64 vs, .slice A rs.length c, .int .i64 pts]] w (Formatted (hformat 1 vs rs pts) w) := by
  have hf : hformat 1 vs rs pts = (fbytes 1 vs rs pts, 0) := by
    unfold hformat
    rw [if_pos (hcheck_ok (by omega) (by omega) (fun _ => hv) (by omega) (fun _ => hl) (by omega) (fun _ => hp) (by rw [hl]; rfl))]
  rw [hf]
  subst hv hl hp
  have HF := hide hf; clear hf
  go_enter Try.func24, Try.ntmps24
  go_wp2
  refine wp_loop_rounds 1 ?_
  rw [rounds_succ]
  go_wp2
  go_ret2
  exact ⟨_, rfl, own_of_blk (xs := byCells [_]) (Blk.new2 _ _ _ _) (by omega) rfl (by unfold maxLen; omega), bl_alloc (bl_alloc (Below.refl _ _) _) _⟩

set_option maxRecDepth 100000 in
set_option maxHeartbeats 2000000 in
theorem rformat_2_ok (hv : vs = 0) (hl : rs = []) (hp : pts = 0) :
    Calls Try.prog 24 #[.agg #[.int .i64 2, .int .i64 vs, .slice A rs.length c, .int .i64 pts]] w (Formatted (hformat 2 vs rs pts) w) := by
  have hf : hformat 2 vs rs pts = (fbytes 2 vs rs pts, 0) := by
    unfold hformat
    rw [if_pos (hcheck_ok (by omega) (by omega) (fun _ => hv) (by omega) (fun _ => hl) (by omega) (fun _ => hp) (by rw [hl]; rfl))]
  rw [hf]
  subst hv hl hp
  have HF := hide hf; clear hf
  go_enter Try.func24, Try.ntmps24
  go_wp2
  refine wp_loop_rounds 1 ?_
  rw [rounds_succ]
  go_wp2
  go_ret2
  exact ⟨_, rfl, own_of_blk (xs := byCells [_]) (Blk.new2 _ _ _ _) (by omega) rfl (by unfold maxLen; omega), bl_alloc (bl_alloc (Below.refl _ _) _) _⟩
end
end Go.Proofs.Ytcfbkabiapaobaa
