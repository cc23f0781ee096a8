/- The reference's Format for convex polygons, fences and batches. -/
import Derived.Test.YtcfbkabiapaobaaRefFormat
namespace Go.Proofs.Ytcfbkabiapaobaa
open Go.RowKit

section
variable (vs : Int) (rs : List Rg) (A : Option Addr) (c : Nat) (pts : Int) (w : World)

set_option maxRecDepth 100000 in
set_option maxHeartbeats 2000000 in
theorem rformat_3_lo (hv : vs < 3) :
    Calls Try.prog 24 #[.agg #[.int .i64 3, .int .i64 vs, .slice A rs.length c, .int .i64 pts]] w (Formatted (hformat 3 vs rs pts) w) := by
  have hr : hcheck 3 vs rs pts = 6 := by
    unfold hcheck hcheckB
    repeat first | rw [if_neg (by omega)] | rw [if_pos (by omega)] | rw [cond_true] | rw [cond_false] | rw [decide_eq_true (by omega), Bool.true_and] | rw [decide_eq_false (by omega), Bool.false_and]
  have HR := hide hr; clear hr
  go_enter Try.func24, Try.ntmps24
  go_wp2
  go_ret2
  exact formatted_err HR.out (by omega) (bl_alloc (Below.refl _ _) _)

set_option maxRecDepth 100000 in
set_option maxHeartbeats 2000000 in
theorem rformat_3_hi (hv : 64 < vs) :
    Calls Try.prog 24 #[.agg #[.int .i64 3, .int .i64 vs, .slice A rs.length c, .int .i64 pts]] w (Formatted (hformat 3 vs rs pts) w) := by
  have hr : hcheck 3 vs rs pts = 6 := by
    unfold hcheck hcheckB
    repeat first | rw [if_neg (by omega)] | rw [if_pos (by omega)] | rw [cond_true] | rw [cond_false] | rw [decide_eq_true (by omega), Bool.true_and] | rw [decide_eq_false (by omega), Bool.false_and]
  have HR := hide hr; clear hr
  go_enter Try.func24, Try.ntmps24
  go_wp2
  go_ret2
  exact formatted_err HR.out (by omega) (bl_alloc (Below.refl _ _) _)

set_option maxRecDepth 100000 in
set_option maxHeartbeats 2000000 in
theorem rformat_3_rs (hv1 : 3 ≤ vs) (hv2 : vs ≤ 64) (hl : 0 < rs.length) :
    Calls Try.prog 24 #[.agg #[.int .i64 3, .int .i64 vs, .slice A rs.length c, .int .i64 pts]] w (Formatted (hformat 3 vs rs pts) w) := by
  have hr : hcheck 3 vs rs pts = 2 := by
    unfold hcheck hcheckB
    repeat first | rw [if_neg (by omega)] | rw [if_pos (by omega)] | rw [cond_true] | rw [cond_false] | rw [decide_eq_true (by omega), Bool.true_and] | rw [decide_eq_false (by omega), Bool.false_and]
  have HR := hide hr; clear hr
  have hl' : decide (0 < rs.length) = true := decide_eq_true hl
  go_enter Try.func24, Try.ntmps24
  go_wp2
  go_ret2
  exact formatted_err HR.out (by omega) (bl_alloc (Below.refl _ _) _)

set_option maxRecDepth 100000 in
set_option maxHeartbeats 2000000 in
theorem rformat_3_pt (hv1 : 3 ≤ vs) (hv2 : vs ≤ 64) (hl : rs = []) (hp : pts ≠ 0) :
    Calls Try.prog 24 #[.agg #[.int .i64 3, .int .i64 vs, .slice A rs.length c, .int .i64 pts]] w (Formatted (hformat 3 vs rs pts) w) := by
  have hr : hcheck 3 vs rs pts = 2 := by
    unfold hcheck hcheckB
    repeat first | rw [if_neg (by omega)] | rw [if_pos (by omega)] | rw [cond_true] | rw [cond_false] | rw [decide_eq_true (by omega), Bool.true_and] | rw [decide_eq_false (by omega), Bool.false_and]
  have HR := hide hr; clear hr
  subst hl
  have hp' : (pts != 0) = true := by rw [bne_iff_ne]; exact hp
  have HP := hide hp; clear hp
  go_enter Try.func24, Try.ntmps24
  go_wp2
  go_ret2
  exact formatted_err HR.out (by omega) (bl_alloc (Below.refl _ _) _)

set_option maxRecDepth 100000 in
set_option maxHeartbeats 2000000 in
theorem rformat_3_ok (hv1 : 3 ≤ vs) (hv2 : vs ≤ 64) (hl : rs = []) (hp : pts = 0) :
    Calls Try.prog 24 #[.agg #[.int .i64 3, .int .i64 vs, .slice A rs.length c, .int .i64 pts]] w (Formatted (hformat 3 vs rs pts) w) := by
  have hf : hformat 3 vs rs pts = (fbytes 3 vs rs pts, 0) := by
    unfold hformat
    rw [if_pos (hcheck_ok (by omega) (by omega) (by omega) (by omega) (fun _ => hl) (by omega) (fun _ => hp) (by rw [hl]; rfl))]
  rw [hf]
  subst hl hp
  have HF := hide hf; clear hf
  obtain ⟨i0, hi, hz0, hz1, hz2⟩ := info_parts u8_info
  go_enter Try.func24, Try.ntmps24
  go_wp2_with (at_builtin; refine wpList_append_own _ rfl (.tmp 106) (.tmp 110) 31 rfl (w.heap.size + 1) 5 i0 (.int .u8 0) 1 1 Try.underlying31 hi hz0 ‹_› hz2 rfl (by decide) (.slice (some ⟨w.heap.size + 1, 0, none⟩) 1 1) 1 (byCells [3]) rfl ((own_of_blk (Blk.new2 _ _ _ _) (Nat.le_refl _) rfl (by unfold maxLen; omega)).alloc _) ⟨w.heap.size + 2, 0, none⟩ 1 1 (byCells [vs]) rfl rfl ?c1 ?c2 ?c3 ?c4 ?c5 ?_)
  case c1 =>
    have h := Blk.new2 (w.alloc (.cells #[.int .i64 3, .int .i64 vs, .slice A 0 c, .int .i64 0] 24)) (.cells #[.int .u8 3] 5) 5 #[.int .u8 vs]
    exact blk_cells (xs := byCells [vs]) (by simp at h; exact h)
  case c2 => exact byCells_one _
  case c3 => unfold maxLen; omega
  case c4 => omega
  case c5 => simp
  intro v2 w2 hown2 hgrow2 _
  have hb2 : Below w.heap.size w w2 := (bl_alloc (bl_alloc (bl_alloc (Below.refl _ _) _) _) _).grown hgrow2 (by simp; omega) (fun k hk => by simp [Value.ownBlock] at hk; omega)
  have B1 := (((Blk.new w 24 #[.int .i64 3, .int .i64 vs, .slice A 0 c, .int .i64 0]).alloc (.cells #[.int .u8 3] 5)).alloc (.cells #[.int .u8 vs] 5)).grown hgrow2 (by simp [Value.ownBlock])
  have f0 := B1.cell (i := 0) rfl
  have f2 := B1.cell (i := 2) rfl
  have f3 := B1.cell (i := 3) rfl
  have HO := hide hown2
  clear hown2 hgrow2
  go_wp2
  refine wp_loop_rounds 1 ?_
  rw [rounds_succ]
  go_wp2
  go_ret2
  exact ⟨_, rfl, own_mono HO.out (by omega), hb2⟩
end
end Go.Proofs.Ytcfbkabiapaobaa
