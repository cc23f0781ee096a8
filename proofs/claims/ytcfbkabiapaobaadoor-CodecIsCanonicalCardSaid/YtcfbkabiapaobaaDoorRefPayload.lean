/- The reference's Points, Payload, Response and Classify. -/
import Derived.Test.YtcfbkabiapaobaaDoorClassify
namespace Go.Proofs.YtcfbkabiapaobaaDoor
open Go.RowKit

set_option maxRecDepth 100000 in
set_option maxHeartbeats 1000000 in
theorem rpoints_any (op vs pts : Int) (rs : List Rg) (A : Option Addr) (c : Nat) (w : World) (hs : Sl w w.heap.size A (rgCells rs)) (hn : rs.length ≤ 65536) :
    Calls Tryd.prog 38 #[.agg #[.int .i64 op, .int .i64 vs, .slice A rs.length c, .int .i64 pts]] w fun e w' => e = .returned (.int .i64 (sumSize rs)) ∧ Below w.heap.size w w' := by
  have hsW := hs.below (bl_alloc (Below.refl _ _) (.cells #[.int .i64 op, .int .i64 vs, .slice A rs.length c, .int .i64 pts] 26))
  have HS := hide hs; clear hs
  go_enter Tryd.func38, Tryd.ntmps38
  go_wp2
  go_loop [3, 4] (fun t i => ∃ k : Nat, k ≤ rs.length ∧ i = .int .i64 k ∧ t = .int .i64 (sumSize (rs.take k)))
    (fun _ i => rs.length - (intOf i).toNat)
  case atStart => exact ⟨0, by omega, rfl, by simp [sumSize]⟩
  case round =>
    obtain ⟨k, hk, rfl, rfl⟩ := hrel
    have hsb := sumSize_bd (rs.take k)
    rw [List.length_take, Nat.min_eq_left hk] at hsb
    obtain ⟨hsb1, hsb2⟩ := hsb
    by_cases hlt : k < rs.length
    · obtain ⟨r, hr⟩ : ∃ r, rs[k]? = some r := ⟨_, List.getElem?_eq_getElem hlt⟩
      obtain ⟨b, off, rfl, hB, c0, c1, c2⟩ := hsW.rg hr
      have hsn := sumSize_snoc rs k r hr
      have hzb := sizeOfReg_bd r.v
      obtain ⟨hzb1, hzb2⟩ := hzb
      have HR := hide hr; clear hr
      have HN := hide hsn; clear hsn
      go_wp2_with fail
      refine (refSize_any _ _).mono ?_
      rintro e w' ⟨rfl, rfl⟩
      go_wp2
      go_round
      case rel => exact ⟨k + 1, by omega, by go_num, by rw [HN.out]⟩
      case measure => simp [intOf]; omega
    · have hk' : k = rs.length := by omega
      rw [hk', List.take_length] at hsb1 hsb2 ⊢
      clear hk' hlt hk
      go_wp2
      go_ret
      exact ⟨rfl, bl_alloc (Below.refl _ _) _⟩

section
variable (op vs pts : Int) (rs : List Rg) (A : Option Addr) (c : Nat) (w : World) (hs : Sl w w.heap.size A (rgCells rs)) (hz : hcheck op vs rs pts = 0)
include hz
include hs
set_option maxRecDepth 100000 in
set_option maxHeartbeats 2000000 in
theorem rpayload_any :
    Calls Tryd.prog 13 #[.agg #[.int .i64 op, .int .i64 vs, .slice A rs.length c, .int .i64 pts]] w fun e w' => e = .returned (.int .i64 (hpay op vs rs pts)) ∧ Below w.heap.size w w' := by
  obtain ⟨ho1, ho2, h3, hn3, h4, hl4, h5, hn5, _⟩ := hcheck_zero hz
  have hr : hpay op vs rs pts = (fixedOf op + vs + sumSize rs) * 16 + pts * 24 := by unfold hpay; rw [if_pos hz]
  have HZ := hide hz; clear hz
  have HR := hide hr; clear hr
  have hop : op = 1 ∨ op = 2 ∨ op = 3 ∨ op = 4 ∨ op = 5 := by omega
  have hsb := sumSize_bd rs
  obtain ⟨hsb1, hsb2⟩ := hsb
  have hs' := hide hs; clear hs
  rcases hop with rfl | rfl | rfl | rfl | rfl
  · have e1 := hl4 (by omega); have e2 := hn3 (by omega); have e3 := hn5 (by omega)
    subst e1 e2 e3
    clear h3 hn3 h4 hl4 h5 hn5
    go_enter Tryd.func13, Tryd.ntmps13
    go_wp2
    go_ret
    exact ⟨ret_int (by rw [HR.out]; rfl), bl_alloc (Below.refl _ _) _⟩
  · have e1 := hl4 (by omega); have e2 := hn3 (by omega); have e3 := hn5 (by omega)
    subst e1 e2 e3
    clear h3 hn3 h4 hl4 h5 hn5
    go_enter Tryd.func13, Tryd.ntmps13
    go_wp2
    go_ret
    exact ⟨ret_int (by rw [HR.out]; rfl), bl_alloc (Below.refl _ _) _⟩
  · have e1 := hl4 (by omega); have e3 := hn5 (by omega)
    obtain ⟨hv1, hv2⟩ := h3 rfl
    subst e1 e3
    clear h3 hn3 h4 hl4 h5 hn5
    go_enter Tryd.func13, Tryd.ntmps13
    go_wp2
    go_ret
    exact ⟨ret_int (by rw [HR.out]; simp [fixedOf, sumSize]; omega), bl_alloc (Below.refl _ _) _⟩
  · have e2 := hn3 (by omega); have e3 := hn5 (by omega)
    obtain ⟨hl1, hl2, _⟩ := h4 (by omega)
    subst e2 e3
    clear h3 hn3 h4 hl4 h5 hn5
    go_enter Tryd.func13, Tryd.ntmps13
    go_wp2_with fail
    refine (rpoints_any 4 0 0 rs A c _ ((hs'.out.below (bl_alloc (Below.refl _ _) _)).more (by simp)) (by omega)).mono ?_
    rintro e w1 ⟨rfl, hb⟩
    go_wp2
    go_ret
    exact ⟨ret_int (by rw [HR.out]; simp [fixedOf]; omega), bl_step (bl_alloc (Below.refl _ _) _) hb⟩
  · have e2 := hn3 (by omega)
    obtain ⟨hl1, hl2, _⟩ := h4 (by omega)
    obtain ⟨hp1, hp2⟩ := h5 rfl
    subst e2
    clear h3 hn3 h4 hl4 h5 hn5
    go_enter Tryd.func13, Tryd.ntmps13
    go_wp2
    go_region_with (go_at_call 38; refine (rpoints_any 5 0 pts rs A c _ ((hs'.out.below (bl_drew (bl_alloc (Below.refl _ _) _))).more (by simp)) (by omega)).mono ?_; rintro e w1 ⟨rfl, hb⟩; obtain ⟨hcl, hfr⟩ := bcell hb)
    all_goals go_wp2
    all_goals go_ret
    all_goals exact ⟨ret_int (by rw [HR.out, IntWalk.i64_in (16 * sumSize rs) (by omega), IntWalk.i64_in (24 * pts) (by omega), IntWalk.i64_in _ (by omega)]; simp [fixedOf]; omega), bl_step (bl_drew (bl_alloc (Below.refl _ _) _)) (by assumption)⟩
end
end Go.Proofs.YtcfbkabiapaobaaDoor
