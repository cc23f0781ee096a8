/- limb: Sign on the limbs of a number that fits. -/
import Derived.Test.YthdpbmpdiaencaaDoorLimb3
namespace Go.Proofs.YthdpbmpdiaencaaDoor
open Go.RowKit

theorem or_zero {a b : Int} (a0 : 0 ≤ a) (a1 : a < 18446744073709551616) (b0 : 0 ≤ b) (b1 : b < 18446744073709551616) : (0 ≤ bits .or .u64 a b ∧ bits .or .u64 a b < 18446744073709551616) ∧ (bits .or .u64 a b = 0 ↔ a = 0 ∧ b = 0) := by
  rw [u64_or a b a0 a1 b0 b1]
  have hl : a.toNat ≤ a.toNat ||| b.toNat := Nat.left_le_or
  have hr : b.toNat ≤ a.toNat ||| b.toNat := Nat.right_le_or
  have hb : a.toNat ||| b.toNat < 2 ^ 64 := Nat.or_lt_two_pow (by omega) (by omega)
  refine ⟨by omega, ?_, ?_⟩
  · intro h; omega
  · rintro ⟨rfl, rfl⟩; rfl
theorem sgnM_sign (v : Int) : sgnM (decide (v < 0)) (decide (v = 0)) = v.sign := by
  unfold sgnM
  by_cases h : v < 0
  · rw [decide_eq_true h, Int.sign_eq_neg_one_of_neg h]; rfl
  · rw [decide_eq_false h]
    by_cases h0 : v = 0
    · subst h0; rfl
    · rw [decide_eq_false h0, Int.sign_eq_one_of_pos (by omega)]; rfl
set_option maxRecDepth 100000 in
set_option maxHeartbeats 2000000 in
theorem lsign_any (n : Nat) (v : Int) (hf : Fits n v) (hn : 1 ≤ n) (hn8 : n ≤ 8) (A : Option Addr) (c : Nat) (w : World) (hs : Sl w w.heap.size A (uCs (lims n v))) (hw : MWords w) (hwg : 2 < w.heap.size) :
    Calls Tryd.prog 19 #[.slice A n c] w fun e w' => e = .returned (.int .i64 v.sign) ∧ Below w.heap.size w w' := by
  obtain ⟨b, off, rfl, hb, hcell⟩ := hs.u (by rw [lims_length]; omega)
  obtain ⟨w0, hw0⟩ : ∃ w0, w0 = w.alloc (.cells #[.slice (some ⟨b, off, none⟩) n c] 22) := ⟨_, rfl⟩
  have hb0 : Below w.heap.size w w0 := by rw [hw0]; exact bl_alloc (Below.refl _ _) _
  have X0 : Blk w0 w.heap.size 22 #[.slice (some ⟨b, off, none⟩) n c] := by rw [hw0]; exact Blk.new _ _ _
  have IS := is_true [(some ⟨b, off, none⟩, n, c)] (by simp; omega) (by simp) (by simp) w0.heap.size (some ⟨w.heap.size, 0, none⟩) 1 w0 (Sl.mk X0.lt fun j u hu => by
    rw [Nat.zero_add]; exact X0.cell (by simpa [slCs] using hu))
  have hw1 : MWords w0 := ⟨(hb0.cell (p := ⟨2, 0, none⟩) hwg).trans hw.1, (hb0.cell (p := ⟨2, 1, none⟩) hwg).trans hw.2⟩
  have hcell0 : ∀ j x, (lims n v)[j]? = some x → w0.cell? ⟨b, off + j, none⟩ = some (.int .u64 x) := fun j x hx => (hb0.cell (p := ⟨b, off + j, none⟩) hb).trans (hcell j x hx)
  have MS := msign_any (decide (v < 0)) (decide (v = 0)) w0 hw1
  rw [sgnM_sign] at MS
  have hz := lims_zero hf
  obtain ⟨m, rfl⟩ : ∃ m, n = m + 1 := ⟨n - 1, by omega⟩
  have ht := lim_top hf
  have HIS := hide IS; have HC := hide hcell0; have HMS := hide MS; have HZ := hide hz; have HT := hide ht
  clear IS hcell0 MS hcell hs hz ht hf hw hw1
  go_enter Tryd.func19, Tryd.ntmps19
  go_wp2_with fail
  rw [← hw0]
  have HW0 := hide hw0
  clear hw0
  refine HIS.out.mono ?_
  rintro e w' ⟨rfl, rfl⟩
  go_wp2
  go_loop [3, 12] (fun u i => ∃ (k : Nat) (U : Int), k ≤ m + 1 ∧ i = .int .i64 k ∧ u = .int .u64 U ∧ (0 ≤ U ∧ U < 18446744073709551616) ∧ Hid (U = 0 ↔ ∀ j, j < k → lim v j = 0))
    (fun _ i => m + 1 - (intOf i).toNat)
  case atStart => exact ⟨0, 0, by omega, rfl, rfl, by omega, hide ⟨fun _ j hj => by omega, fun _ => rfl⟩⟩
  case round =>
    obtain ⟨k, U, hk, rfl, rfl, ⟨hU0, hU1⟩, HU⟩ := hrel
    by_cases hlt : k < m + 1
    · have hx := lims_get v hlt
      have hxl := lim_bd v k
      have cx := HC.out _ _ hx
      have ho := or_zero hU0 hU1 hxl.1 hxl.2
      have HN : Hid (bits .or .u64 U (lim v k) = 0 ↔ ∀ j, j < k + 1 → lim v j = 0) := by
        apply hide
        rw [ho.2, HU.out]
        constructor
        · rintro ⟨h1, h2⟩ j hj
          by_cases hjk : j < k
          · exact h1 j hjk
          · rw [show j = k by omega]; exact h2
        · intro h; exact ⟨fun j hj => h j (by omega), h k (by omega)⟩
      have hob := ho.1
      clear hx hxl ho
      have hkn : (k : Int) < (m : Int) + 1 := by omega
      have hk0 : (0 : Int) ≤ (k : Int) := by omega
      go_wp2
      go_round
      case rel => exact ⟨k + 1, _, by omega, by go_num, rfl, hob, HN⟩
      case measure => simp [intOf]; omega
    · obtain rfl : k = m + 1 := by omega
      have hx := lims_get v (show m < m + 1 by omega)
      have hxl := lim_bd v m
      have cx := HC.out _ _ hx
      have e1 : decide (9223372036854775808 ≤ lim v m) = decide (v < 0) := by
        by_cases h : v < 0
        · rw [decide_eq_true h, decide_eq_true (HT.out.2 h)]
        · rw [decide_eq_false h, decide_eq_false (fun h' => h (HT.out.1 h'))]
      have e2 : decide (U = 0) = decide (v = 0) := by
        have : U = 0 ↔ v = 0 := HU.out.trans HZ.out
        by_cases h : v = 0
        · rw [decide_eq_true h, decide_eq_true (this.2 h)]
        · rw [decide_eq_false h, decide_eq_false (fun h' => h (this.1 h'))]
      have FL := fill_any (lim v m) hxl.1 hxl.2 w0
      have ZR := zero_any U hU0 hU1 w0
      rw [e1] at FL
      rw [e2] at ZR
      have HFL := hide FL; have HZR := hide ZR
      clear FL ZR e1 e2 hx hxl
      go_wp2_with fail
      refine HFL.out.mono ?_
      rintro e w' ⟨rfl, rfl⟩
      go_wp2_with fail
      refine HZR.out.mono ?_
      rintro e w' ⟨rfl, rfl⟩
      go_wp2_with fail
      refine HMS.out.mono ?_
      rintro e w' ⟨rfl, k, rfl⟩
      go_wp2
      go_ret
      exact ⟨rfl, bl_drewN hb0 _⟩
end Go.Proofs.YthdpbmpdiaencaaDoor
