/- The reference's test whether a number fits. -/
import Derived.Test.YthdpbmpdiaencaaDoorRefLimbs
namespace Go.Proofs.YthdpbmpdiaencaaDoor
open Go.RowKit

theorem fits_inj {n : Nat} {a b : Int} (ha : Fits n a) (hb : Fits n b) (h : lims n a = lims n b) : a = b := by
  have e := congrArg valL h
  rw [valL_lims, valL_lims] at e
  obtain ⟨a1, a2⟩ := ha
  obtain ⟨b1, b2⟩ := hb
  have hp := W64_pos n
  generalize (18446744073709551616 : Int) ^ n = B at *
  have hd : (a - b) % B = 0 := by rw [Int.sub_emod, e, Int.sub_self]; exact Int.zero_emod _
  obtain ⟨k, hk⟩ := Int.dvd_of_emod_eq_zero hd
  have hk0 : k = 0 := by
    rcases Int.lt_trichotomy k 0 with h1 | h1 | h1
    · have := Int.mul_le_mul_of_nonneg_left (show k ≤ -1 by omega) (Int.le_of_lt hp)
      rw [Int.mul_neg, Int.mul_one] at this
      omega
    · exact h1
    · have := Int.mul_le_mul_of_nonneg_left (show 1 ≤ k by omega) (Int.le_of_lt hp)
      rw [Int.mul_one] at this
      omega
  rw [hk0, Int.mul_zero] at hk
  omega
theorem abs_sign {a b : Int} (h1 : a.sign = b.sign) (h2 : a.natAbs = b.natAbs) : a = b := by
  rcases sign_cases a with ⟨s, h⟩ | ⟨s, h⟩ | ⟨s, h⟩ <;> rcases sign_cases b with ⟨t, k⟩ | ⟨t, k⟩ | ⟨t, k⟩ <;> omega
set_option maxRecDepth 100000 in
set_option maxHeartbeats 2000000 in
theorem rfits_any (P : Nat → Prop) (a : Int) (n : Nat) (hn : 1 ≤ n) (hn8 : n ≤ 8) (A : Option Addr) (c : Nat) (w : World) (ha : NumAt w P a A c) (hla : (digs a.natAbs).length ≤ 100) :
    Calls Tryd.prog 36 #[numV a A c, .int .i64 (n : Int)] w fun e w' => e = .returned (.bool (decide (Fits n a))) ∧ Below w.heap.size w w' := by
  obtain ⟨v, hv, hvl⟩ : ∃ v, Fits n v ∧ lims n v = lims n a := by
    have h := signed_of (lims_L64 n a)
    rw [lims_length] at h
    exact h
  have hiff : Fits n a ↔ a = v := ⟨fun h => fits_inj h hv hvl.symm, fun h => h ▸ hv⟩
  have hlv : (digs v.natAbs).length ≤ 100 := by
    have h1 := W64_nat n
    have hp := W64_pos n
    have h2 := hv.1
    have h3 := hv.2
    have h4 : v.natAbs < 65536 ^ (4 * n) := by omega
    exact Nat.le_trans (digs_len h4) (by omega)
  obtain ⟨L, hL⟩ : ∃ L, L = (digs a.natAbs).length := ⟨_, rfl⟩
  obtain ⟨sg, hsg⟩ : ∃ sg, sg = a.sign := ⟨_, rfl⟩
  obtain ⟨M, hM⟩ : ∃ M, M = (digs v.natAbs).length := ⟨_, rfl⟩
  obtain ⟨sv, hsv⟩ : ∃ sv, sv = v.sign := ⟨_, rfl⟩
  obtain ⟨w0, hw0⟩ : ∃ w0, w0 = w.alloc (.cells #[.int .i64 sg, .slice A L c] 49) := ⟨_, rfl⟩
  have hb0 : Below w.heap.size w w0 := by rw [hw0]; exact bl_alloc (Below.refl _ _) _
  have B0 : Blk w0 w.heap.size 49 #[.int .i64 sg, .slice A L c] := by rw [hw0]; exact Blk.new _ _ _
  have LM := limbs_any P a n hn hn8 A c w0 (ha.step hb0) hla
  have HCM : Hid (∀ (wx : World) (A5 : Option Addr) (c5 : Nat), Below w.heap.size w wx → Sl wx wx.heap.size A5 (dCs (digs v.natAbs)) → Calls Tryd.prog 60 #[.slice A L c, .slice A5 M c5] wx fun e w' => e = .returned (.int .i64 (cmpN a.natAbs v.natAbs)) ∧ Below wx.heap.size wx w') := hide fun wx A5 c5 hb h5 => by
    have h := compare_any a.natAbs v.natAbs A A5 c c5 wx (((ha.1.any).below hb).more hb.size) h5 (by omega)
    rw [← hL, ← hM] at h
    exact h
  have HVA : Hid (∀ (wx : World) (A5 : Option Addr) (c5 : Nat), Sl wx wx.heap.size A5 (uCs (lims n a)) → Calls Tryd.prog 25 #[.slice A5 n c5] wx fun e w' => ∃ A6 c6, e = .returned (.agg #[.int .i64 sv, .slice A6 M c6]) ∧ Sl w' w'.heap.size A6 (dCs (digs v.natAbs)) ∧ Below wx.heap.size wx w') := hide fun wx A5 c5 h => by
    refine (value_any (fun _ => True) n v hv hn hn8 A5 c5 wx (by rw [hvl]; exact h) (fun _ _ => trivial)).mono ?_
    rintro e w' ⟨A6, c6, rfl, hN, hb⟩
    unfold numV
    rw [← hM, ← hsv]
    exact ⟨A6, c6, rfl, hN.1.any, hb⟩
  unfold numV at LM ⊢
  rw [← hsg, ← hL] at LM ⊢
  have HLM := hide LM; have HIF := hide hiff; have HSG := hide hsg; have HSV := hide hsv; have HB0 := hide hb0; have HBx := hide B0
  clear LM hiff hsg hsv hb0 B0 ha hla hv hvl hlv hL hM
  go_enter Tryd.func36, Tryd.ntmps36
  go_wp2_with fail
  rw [← hw0]
  have HW0 := hide hw0
  clear hw0
  refine HLM.out.mono ?_
  rintro e w1 ⟨A1, c1, rfl, hb1, hs1⟩
  have HV := hide (HVA.out w1 A1 c1 hs1)
  clear hs1
  go_wp2_with fail
  refine HV.out.mono ?_
  rintro e w2 ⟨A2, c2, rfl, hs2, hb2⟩
  have hB2 := bl_step (bl_step HB0.out hb1) hb2
  have B2 := (HBx.out.step hb1).step hb2
  have q0 := B2.cell (i := 0) rfl
  have q1 := B2.cell (i := 1) rfl
  have hlt := B2.lt
  by_cases hs : sg = sv
  · have hsb : (sg == sv) = true := by rw [beq_iff_eq]; exact hs
    obtain ⟨w3, hw3⟩ : ∃ w3, w3 = w2.alloc (.cells #[.int .i64 sv, .slice A2 M c2] 49) := ⟨_, rfl⟩
    have hb3 : Below w2.heap.size w2 w3 := by rw [hw3]; exact bl_alloc (Below.refl _ _) _
    have hB3 := bl_step hB2 hb3
    have CM := hide (HCM.out w3 A2 c2 hB3 ((hs2.below hb3).more hb3.size))
    have HS := hide hs
    clear hs hs2 B2 hb3
    go_wp2_with fail
    rw [← hw3]
    clear hw3
    refine CM.out.mono ?_
    rintro e w4 ⟨rfl, hb4⟩
    have hB4 := bl_step hB3 hb4
    have hz : (cmpN a.natAbs v.natAbs == 0) = decide (Fits n a) := by
      rw [Bool.eq_iff_iff, beq_iff_eq, decide_eq_true_eq, HIF.out]
      unfold cmpN
      constructor
      · intro h
        by_cases h1 : a.natAbs < v.natAbs
        · rw [if_pos h1] at h; omega
        · rw [if_neg h1] at h
          by_cases h2 : a.natAbs = v.natAbs
          · exact abs_sign (by rw [← HSG.out, ← HSV.out]; exact HS.out) h2
          · rw [if_neg h2] at h; omega
      · rintro rfl
        rw [if_neg (by omega), if_pos rfl]
    have HZ := hide hz
    clear hz
    obtain ⟨k, hk⟩ : ∃ k, k = cmpN a.natAbs v.natAbs := ⟨_, rfl⟩
    rw [← hk] at HZ ⊢
    clear hk
    go_wp2
    go_ret
    exact ⟨ret_bool HZ.out, hB4⟩
  · have hsb : (sg == sv) = false := by rw [beq_eq_false_iff_ne]; exact hs
    have hf : ¬ Fits n a := fun h => hs (by rw [HSG.out, HSV.out, HIF.out.1 h])
    have HFD := hide (decide_eq_false hf)
    clear hs hs2 B2 hf
    go_wp2
    go_ret
    exact ⟨ret_bool HFD.out.symm, bl_alloc hB2 _⟩
end Go.Proofs.YthdpbmpdiaencaaDoor
