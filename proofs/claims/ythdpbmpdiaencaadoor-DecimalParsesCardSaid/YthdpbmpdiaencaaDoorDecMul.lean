/- Plain laws: limbs of a number multiplied by ten plus a digit. -/
import Derived.Test.YthdpbmpdiaencaaDoorDecMath
namespace Go.Proofs.YthdpbmpdiaencaaDoor

/-- the carry into limb j of 10 v + d -/
def cy10 (v d : Int) (j : Nat) : Int := (10 * (v % (18446744073709551616 : Int) ^ j) + d) / (18446744073709551616 : Int) ^ j
theorem cy10_zero (v d : Int) : cy10 v d 0 = d := by
  unfold cy10
  rw [Int.pow_zero, Int.emod_one, Int.ediv_one]; omega
theorem cy10_bd (v : Int) {d : Int} (d0 : 0 ≤ d) (d9 : d ≤ 9) (j : Nat) : 0 ≤ cy10 v d j ∧ cy10 v d j ≤ 9 := by
  unfold cy10
  have hp := W64_pos j
  have h0 := Int.emod_nonneg v (show (18446744073709551616 : Int) ^ j ≠ 0 by omega)
  have h1 := Int.emod_lt_of_pos v hp
  generalize (18446744073709551616 : Int) ^ j = B at *
  generalize v % B = r at *
  refine ⟨Int.ediv_nonneg (by omega) (by omega), ?_⟩
  have : (10 * r + d) / B < 10 := Int.ediv_lt_of_lt_mul hp (by omega)
  omega
theorem mul10_step (v d : Int) (j : Nat) : lim (10 * v + d) j = (lim v j * 10 + cy10 v d j) % 18446744073709551616 ∧ cy10 v d (j + 1) = (lim v j * 10 + cy10 v d j) / 18446744073709551616 := by
  unfold cy10 lim
  have hp := W64_pos j
  have e2 : (18446744073709551616 : Int) ^ (j + 1) = (18446744073709551616 : Int) ^ j * 18446744073709551616 := Int.pow_succ _ _
  rw [e2]
  generalize (18446744073709551616 : Int) ^ j = B at *
  clear e2
  have hr := Int.emod_add_mul_ediv v B
  have r0 := Int.emod_nonneg v (show B ≠ 0 by omega)
  have r1 := Int.emod_lt_of_pos v hp
  generalize v % B = r at *
  generalize v / B = q at *
  have hq := Int.emod_add_mul_ediv q 18446744073709551616
  have l0 := Int.emod_nonneg q (show (18446744073709551616 : Int) ≠ 0 by decide)
  have l1 := Int.emod_lt_of_pos q (show (0 : Int) < 18446744073709551616 by decide)
  generalize q % 18446744073709551616 = l at *
  generalize q / 18446744073709551616 = H at *
  have hv : v = (r + B * l) + (B * 18446744073709551616) * H := by rw [← hr, ← hq]; grind
  have hm : v % (B * 18446744073709551616) = r + B * l := by
    rw [hv, Int.add_mul_emod_self_left]
    refine Int.emod_eq_of_lt ?_ ?_
    · have := Int.mul_nonneg (Int.le_of_lt hp) l0
      omega
    · have := Int.mul_le_mul_of_nonneg_left (show l + 1 ≤ 18446744073709551616 by omega) (Int.le_of_lt hp)
      rw [Int.mul_add, Int.mul_one] at this
      omega
  have h10 : 10 * (r + B * l) + d = (10 * r + d) + B * (l * 10) := by grind
  have hx : 10 * v + d = (10 * r + d) + B * (10 * q) := by rw [← hr]; grind
  constructor
  · rw [hx, Int.add_mul_ediv_left _ _ (by omega), ← hq]
    have : (10 * r + d) / B + 10 * (l + 18446744073709551616 * H) = l * 10 + (10 * r + d) / B + 18446744073709551616 * (10 * H) := by grind
    rw [this, Int.add_mul_emod_self_left]
  · rw [hm, h10, ← Int.ediv_ediv_of_nonneg (Int.le_of_lt hp), Int.add_mul_ediv_left _ _ (by omega), Int.add_comm]
/-- limbs below j of x, the others of v -/
def mix (n j : Nat) (x v : Int) : List Int := (lims n x).take j ++ (lims n v).drop j
theorem mix_zero (n : Nat) (x v : Int) : mix n 0 x v = lims n v := by simp [mix]
theorem mix_full (n : Nat) (x v : Int) : mix n n x v = lims n x := by
  unfold mix
  rw [List.take_of_length_le (by rw [lims_length]; omega), List.drop_of_length_le (by rw [lims_length]; omega), List.append_nil]
theorem mix_get {n j : Nat} (x v : Int) (h : j < n) : (mix n j x v)[j]? = some (lim v j) := by
  unfold mix
  rw [List.getElem?_append_right (by simp [lims_length]; omega), List.getElem?_drop]
  have e : j + (j - ((lims n x).take j).length) = j := by simp [lims_length]; omega
  rw [e, lims_get v h]
theorem mix_set {n j : Nat} (x v : Int) (h : j < n) : (mix n j x v).set j (lim x j) = mix n (j + 1) x v := by
  unfold mix
  have hl : ((lims n x).take j).length = j := by simp [lims_length]; omega
  have hd : (lims n v).drop j = lim v j :: (lims n v).drop (j + 1) := by
    rw [List.drop_eq_getElem_cons (by rw [lims_length]; exact h)]
    congr 1
    have := lims_get v h
    exact (List.getElem?_eq_some_iff.1 this).2
  rw [List.set_append_right _ _ (by omega), hl, Nat.sub_self, hd, List.set_cons_zero, List.take_add_one, lims_get x h, List.append_assoc]
  rfl
theorem mix_len (n j : Nat) (x v : Int) (h : j ≤ n) : (mix n j x v).length = n := by simp [mix, lims_length]; omega
theorem valL_zero : ∀ l : List Int, L64 l → valL l = 0 → ∀ x ∈ l, x = 0
  | [], _, _ => by simp
  | a :: t, h, hz => by
    have h1 := valL_bd t h.tail
    have h2 := h.head
    rw [valL] at hz
    intro x hx
    rcases List.mem_cons.1 hx with rfl | hx
    · omega
    · exact valL_zero t h.tail (by omega) x hx
theorem valL_zeros : ∀ l : List Int, (∀ x ∈ l, x = 0) → valL l = 0
  | [], _ => rfl
  | a :: t, h => by rw [valL, valL_zeros t fun x hx => h x (List.mem_cons_of_mem _ hx), h a (by simp)]; rfl
/-- whether a number exceeds its first limbs -/
theorem over_lims {m n : Nat} {v : Int} (v0 : 0 ≤ v) (v1 : v < (18446744073709551616 : Int) ^ m) (hn : n ≤ m) : (((lims m v).drop n).any fun x => !(x == 0)) = decide ((18446744073709551616 : Int) ^ n ≤ v) := by
  have hu := lims_L64 m v
  have hv : valL (lims m v) = v := by rw [valL_lims, Int.emod_eq_of_lt v0 v1]
  have hs := valL_append ((lims m v).take n) ((lims m v).drop n)
  rw [List.take_append_drop, hv, lims_take v hn, lims_length] at hs
  have hb := valL_bd (lims n v) (lims_L64 n v)
  rw [lims_length] at hb
  have hd : L64 ((lims m v).drop n) := fun x hx => hu x (List.mem_of_mem_drop hx)
  have hdb := valL_bd _ hd
  have hp := W64_pos n
  generalize (lims m v).drop n = l at *
  by_cases h : ∀ x ∈ l, x = 0
  · rw [valL_zeros l h, Int.mul_zero] at hs
    rw [decide_eq_false (by omega), List.any_eq_false]
    intro x hx
    simp [h x hx]
  · have hx : ∃ x, x ∈ l ∧ x ≠ 0 := Classical.byContradiction fun hh => h fun x hx => Classical.byContradiction fun h0 => hh ⟨x, hx, h0⟩
    obtain ⟨x, hx, h0⟩ := hx
    have hne : valL l ≠ 0 := fun hz => h0 (valL_zero l hd hz x hx)
    have h1 : 1 ≤ valL l := by omega
    have h2 := Int.mul_le_mul_of_nonneg_left h1 (Int.le_of_lt hp)
    rw [decide_eq_true (by omega), List.any_eq_true]
    exact ⟨x, hx, by simp [h0]⟩
/-- the signed number that limbs stand for -/
theorem sgn_lims {n : Nat} {p : Int} (h0 : -((18446744073709551616 : Int) ^ n) < p) (h1 : p < (18446744073709551616 : Int) ^ n) : ∃ v, Fits n v ∧ lims n v = lims n p ∧ (Fits n p → v = p) ∧ (¬ Fits n p → 0 ≤ p → v < 0) ∧ (¬ Fits n p → p < 0 → 0 < v) := by
  have hp := W64_pos n
  by_cases hf : Fits n p
  · exact ⟨p, hf, rfl, fun _ => rfl, fun h => absurd hf h, fun h => absurd hf h⟩
  · by_cases hs : 0 ≤ p
    · refine ⟨p - (18446744073709551616 : Int) ^ n, ?_, lims_eq ?_, fun h => absurd h hf, ?_, ?_⟩
      · unfold Fits at *
        generalize (18446744073709551616 : Int) ^ n = B at *
        omega
      · exact Int.sub_emod_right _ _
      · intro _ _
        omega
      · intro _ h; omega
    · refine ⟨p + (18446744073709551616 : Int) ^ n, ?_, lims_eq ?_, fun h => absurd h hf, ?_, ?_⟩
      · unfold Fits at *
        generalize (18446744073709551616 : Int) ^ n = B at *
        omega
      · exact Int.add_emod_right _ _
      · intro _ h; omega
      · intro _ _; omega
end Go.Proofs.YthdpbmpdiaencaaDoor
