/- The reference's Classify; the law HeaderClassifies walked. -/
import Derived.Test.YtcfbkabiapaobaaDoorRefPayload
import Derived.Test.YtcfbkabiapaobaaDoorHdMath
namespace Go.Proofs.YtcfbkabiapaobaaDoor
open Go.RowKit

section
variable (bs : List Int) (A : Option Addr) (c : Nat) (w : World)
variable (hs : Sl w w.heap.size A (byCells bs)) (hby : ∀ (j : Nat) (x : Int), bs[j]? = some x → 0 ≤ x ∧ x ≤ 255)
include hs hby

set_option maxRecDepth 100000 in
set_option maxHeartbeats 1000000 in
theorem rclassify_any :
    Calls Tryd.prog 25 #[.slice A bs.length c] w fun e w' => e = .returned (.int .i64 (hclass bs)) ∧ Below w.heap.size w w' := by
  have hpb := hpay_bd (hparse bs).1.op (hparse bs).1.vs (hparse bs).1.rs (hparse bs).1.pts
  have hnb := hparse_n bs
  have hok := hparse_ok bs
  obtain ⟨v, hv⟩ : ∃ v, v = hclass bs := ⟨_, rfl⟩
  unfold hclass at hv
  rw [show hclass bs = v from by rw [hv]; rfl]
  have P := rparse_any bs A c w hs hby
  revert P hv hok hpb hnb
  generalize hparse bs = r
  obtain ⟨⟨op, vs, rs, pts⟩, n, er⟩ := r
  intro hpb hnb hok hv P
  simp only at hpb hnb hv
  have hok' : er = 0 → hcheck op vs rs pts = 0 := hok
  have HOK := hide hok'; clear hok hok'
  have HV := hide hv; clear hv
  have HP := hide P; clear P
  have HPB := hide hpb; clear hpb
  have HNB := hide hnb; clear hnb
  go_enter Tryd.func25, Tryd.ntmps25
  go_wp2_with fail
  refine HP.out.mono ?_
  rintro e w1 ⟨A1, c1, rfl, hsl, hb1⟩
  simp only at hsl
  by_cases he : er = 0
  · subst he
    go_wp2_with fail
    refine (rpayload_any op vs pts rs A1 c1 _ ((hsl.below (bl_alloc (Below.refl _ _) _)).more (by simp)) (HOK.out trivial)).mono ?_
    rintro e w2 ⟨rfl, hb2⟩
    obtain ⟨hpb1, hpb2⟩ := HPB.out
    obtain ⟨hnb1, hnb2⟩ := HNB.out
    by_cases hq : (bs.length : Int) = n + hpay op vs rs pts
    · have hq' : ((bs.length : Int) != n + hpay op vs rs pts) = false := by rw [bne_eq_false_iff_eq]; exact hq
      have HQ := hide hq; clear hq
      go_wp2
      go_ret
      exact ⟨ret_int (by rw [HV.out, if_pos trivial, if_pos HQ.out]), bl_step (bl_alloc hb1 _) hb2⟩
    · have hq' : ((bs.length : Int) != n + hpay op vs rs pts) = true := by rw [bne_iff_ne]; exact hq
      have HQ := hide hq; clear hq
      go_wp2
      go_ret
      exact ⟨ret_int (by rw [HV.out, if_pos trivial, if_neg HQ.out]), bl_step (bl_alloc hb1 _) hb2⟩
  · have he' : (er == 0) = false := by simpa using he
    have HE := hide he; clear he
    go_wp2
    go_ret
    exact ⟨ret_int (by rw [HV.out, if_neg HE.out]), bl_alloc hb1 _⟩

end
end Go.Proofs.YtcfbkabiapaobaaDoor
