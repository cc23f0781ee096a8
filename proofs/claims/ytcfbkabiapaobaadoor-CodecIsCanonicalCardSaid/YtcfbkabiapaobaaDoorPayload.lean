/- header.Payload. -/
import Derived.Test.YtcfbkabiapaobaaDoorResponse
namespace Go.Proofs.YtcfbkabiapaobaaDoor
open Go.RowKit

/-- the table 'fixed' of the header's package -/
def Fixed (w : World) : Prop := ∀ j : Nat, j < 6 → w.cell? ⟨0, j, none⟩ = some (.int .i64 ([0, 3, 4, 1, 1, 0].getD j 0))
theorem Fixed.below {w w' : World} (h : Fixed w) (hb : Below w.heap.size w w') (hg : 0 < w.heap.size) : Fixed w' := fun j hj => (hb.cell (p := ⟨0, j, none⟩) hg).trans (h j hj)

section
variable (vs : Int) (rs : List Rg) (A : Option Addr) (c : Nat) (pts : Int) (w : World)
variable (hs : Sl w w.heap.size A (rgCells rs)) (hn : rs.length ≤ maxLen)
include hs hn
variable (hfix : Fixed w) (hg : 0 < w.heap.size)
include hfix hg
set_option maxHeartbeats 2000000 in
theorem payload_any (op : Int) :
    Calls Tryd.prog 44 #[.agg #[.int .i64 op, .int .i64 vs, .slice A rs.length c, .int .i64 pts]] w fun e w' => e = .returned (.int .i64 (hpay op vs rs pts)) ∧ Below w.heap.size w w' := by
  have hs' := hide hs; clear hs
  have HF := hide hfix; clear hfix
  go_enter Tryd.func44, Tryd.ntmps44
  go_wp2_with fail
  refine (check_any vs rs A c pts _ ((hs'.out.below (bl_alloc (Below.refl _ _) _)).more (by simp)) hn op).mono ?_
  rintro e w1 ⟨rfl, hb⟩
  obtain ⟨hcl, hfr⟩ := bcell hb
  by_cases h0 : hcheck op vs rs pts = 0
  · have hz := hcheck_zero h0
    rw [h0]
    have hsl := (hs'.out.below (bl_step (bl_alloc (Below.refl _ _) _) hb))
    have hcells : ∀ j : Nat, j < 6 → w1.cell? ⟨0, j, none⟩ = some (.int .i64 ([0, 3, 4, 1, 1, 0].getD j 0)) := fun j hj => ((bl_step (bl_alloc (Below.refl _ _) _) hb).cell (p := ⟨0, j, none⟩) hg).trans (HF.out j hj)
    have g1 := hcells 1 (by omega)
    have g2 := hcells 2 (by omega)
    have g3 := hcells 3 (by omega)
    have g4 := hcells 4 (by omega)
    have g5 := hcells 5 (by omega)
    clear hcells
    simp only [List.getD_cons_succ, List.getD_cons_zero] at g1 g2 g3 g4 g5
    obtain ⟨ha, hb', hc, hd, he, hf, hgg, hi, hj⟩ := hz
    have hspec : hpay op vs rs pts = (fixedOf op + vs + sumSize rs) * 16 + pts * 24 := by unfold hpay; rw [if_pos h0]
    have H0 := hide h0; clear h0
    have hop : op = 1 ∨ op = 2 ∨ op = 3 ∨ op = 4 ∨ op = 5 := by omega
    have HSP := hide hspec; clear hspec
    have hbnd : rs.length ≤ 64 := by
      by_cases h4 : 4 ≤ op
      · exact (he h4).2.1
      · rw [hf (by omega)]; simp
    have HE := hide he; clear he
    have HFn := hide hf; clear hf
    have hvb : 0 ≤ vs ∧ vs ≤ 64 := by omega
    have hpb : 0 ≤ pts ∧ pts ≤ 4096 := by omega
    clear hc hd hgg hi
    obtain ⟨hv1, hv2⟩ := hvb
    obtain ⟨hp1, hp2⟩ := hpb
    obtain ⟨X, hX⟩ : ∃ X, X = fixedOf op := ⟨_, rfl⟩
    have hXb : 0 ≤ X ∧ X ≤ 4 := by rw [hX]; unfold fixedOf; split <;> (try split) <;> (try split) <;> omega
    obtain ⟨hX1, hX2⟩ := hXb
    have HX := hide hX; clear hX
    rcases hop with rfl | rfl | rfl | rfl | rfl
    all_goals
      go_wp2
      go_quiet (fail)
      go_wp2
      go_loopw [3, 5, 19] (fun t _ i wr => ∃ k : Nat, k ≤ rs.length ∧ i = .int .i64 k ∧ t = .int .i64 (X + vs + sumSize (rs.take k)) ∧ Below w1.heap.size w1 wr)
        (fun _ _ i _ => rs.length - (intOf i).toNat)
      case atStart => exact ⟨0, by omega, rfl, by rw [HX.out]; simp [sumSize, fixedOf], below_drewN (Below.refl _ _) _⟩
      case round =>
        obtain ⟨k, hk, rfl, rfl, hbr⟩ := hrel
        have hsb := sumSize_bd (rs.take k)
        rw [List.length_take, Nat.min_eq_left hk] at hsb
        obtain ⟨hsb1, hsb2⟩ := hsb
        by_cases hlt : k < rs.length
        · obtain ⟨r, hr⟩ : ∃ r, rs[k]? = some r := ⟨_, List.getElem?_eq_getElem hlt⟩
          obtain ⟨b, off, rfl, hB, c0, c1, c2⟩ := (hsl.below (hbr.mono (by have := hb.size; simp at this; omega))).rg hr
          have hsn := sumSize_snoc rs k r hr
          have hzb := sizeOfReg_bd r.v
          obtain ⟨hzb1, hzb2⟩ := hzb
          have HR := hide hr; clear hr
          have HN := hide hsn; clear hsn
          go_wp2_with fail
          refine (size_any r.d r.v r.A r.n r.c _).mono ?_
          rintro e w2 ⟨rfl, hb2⟩
          go_wp2
          go_roundw
          case rel => exact ⟨k + 1, by omega, by go_num, by rw [HN.out]; go_num, bl_step (bl_alloc hbr _) hb2⟩
          case measure => simp [intOf]; omega
        · have hk' : k = rs.length := by omega
          rw [hk', List.take_length] at hsb1 hsb2 ⊢
          clear hk' hlt hk
          obtain ⟨hcl2, hfr2⟩ := bcell hbr
          have hz1 := hb.size
          simp at hz1
          have hz2 : w.heap.size < w1.heap.size := by omega
          go_wp2
          go_ret
          exact ⟨ret_int (by rw [HSP.out, ← HX.out]), bl_step (bl_step (bl_alloc (Below.refl _ _) _) hb) hbr⟩
  · have hr : hpay op vs rs pts = 0 := by unfold hpay; rw [if_neg h0]
    have h0' : (hcheck op vs rs pts != 0) = true := by simpa using h0
    generalize hcheck op vs rs pts = x at *
    have H0 := hide h0; clear h0
    have HR := hide hr; clear hr
    go_wp2
    go_ret
    exact ⟨ret_int HR.out.symm, bl_step (bl_alloc (Below.refl _ _) _) hb⟩
end
end Go.Proofs.YtcfbkabiapaobaaDoor
