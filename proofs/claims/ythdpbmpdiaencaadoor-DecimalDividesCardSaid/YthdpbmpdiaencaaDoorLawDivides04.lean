/- DecimalDivides: the quotient times the divisor plus the remainder is the dividend. -/
import Derived.Test.YthdpbmpdiaencaaDoorDecText
import Derived.Test.YthdpbmpdiaencaaDoorSame03
import Derived.Test.YthdpbmpdiaencaaDoorMulAdd02
namespace Go.Proofs.YthdpbmpdiaencaaDoor
open Go.RowKit

/-- the carry into limb j of k q + r -/
def cyK (k q r : Int) (j : Nat) : Int := (k * (q % (18446744073709551616 : Int) ^ j) + r) / (18446744073709551616 : Int) ^ j
theorem cyK_zero (k q r : Int) : cyK k q r 0 = r := by
  unfold cyK
  rw [Int.pow_zero, Int.emod_one, Int.ediv_one, Int.mul_zero, Int.zero_add]
theorem cyK_bd {k : Int} (q : Int) {r : Int} (r0 : 0 ≤ r) (rk : r < k) (j : Nat) : 0 ≤ cyK k q r j ∧ cyK k q r j < k := by
  unfold cyK
  have hp := W64_pos j
  have h0 := Int.emod_nonneg q (show (18446744073709551616 : Int) ^ j ≠ 0 by omega)
  have h1 := Int.emod_lt_of_pos q hp
  generalize (18446744073709551616 : Int) ^ j = B at *
  generalize q % B = x at *
  refine ⟨Int.ediv_nonneg (by have := Int.mul_nonneg (show 0 ≤ k by omega) h0; omega) (by omega), ?_⟩
  refine Int.ediv_lt_of_lt_mul hp ?_
  have := Int.mul_le_mul_of_nonneg_left (show x ≤ B - 1 by omega) (show 0 ≤ k by omega)
  rw [Int.mul_sub, Int.mul_one] at this
  omega
theorem mulK_step (k q r : Int) (j : Nat) : lim (k * q + r) j = (lim q j * k + cyK k q r j) % 18446744073709551616 ∧ cyK k q r (j + 1) = (lim q j * k + cyK k q r j) / 18446744073709551616 := by
  unfold cyK lim
  have hp := W64_pos j
  have e2 : (18446744073709551616 : Int) ^ (j + 1) = (18446744073709551616 : Int) ^ j * 18446744073709551616 := Int.pow_succ _ _
  rw [e2]
  generalize (18446744073709551616 : Int) ^ j = B at *
  clear e2
  have hr := Int.emod_add_mul_ediv q B
  have r0 := Int.emod_nonneg q (show B ≠ 0 by omega)
  have r1 := Int.emod_lt_of_pos q hp
  generalize q % B = x at *
  generalize q / B = y at *
  have hq := Int.emod_add_mul_ediv y 18446744073709551616
  have l0 := Int.emod_nonneg y (show (18446744073709551616 : Int) ≠ 0 by decide)
  have l1 := Int.emod_lt_of_pos y (show (0 : Int) < 18446744073709551616 by decide)
  generalize y % 18446744073709551616 = l at *
  generalize y / 18446744073709551616 = H at *
  have hv : q = (x + B * l) + (B * 18446744073709551616) * H := by rw [← hr, ← hq]; grind
  have hm : q % (B * 18446744073709551616) = x + B * l := by
    rw [hv, Int.add_mul_emod_self_left]
    refine Int.emod_eq_of_lt ?_ ?_
    · have := Int.mul_nonneg (Int.le_of_lt hp) l0
      omega
    · have := Int.mul_le_mul_of_nonneg_left (show l + 1 ≤ 18446744073709551616 by omega) (Int.le_of_lt hp)
      rw [Int.mul_add, Int.mul_one] at this
      omega
  have h10 : k * (x + B * l) + r = (k * x + r) + B * (l * k) := by grind
  have hx : k * q + r = (k * x + r) + B * (k * y) := by rw [← hr]; grind
  constructor
  · rw [hx, Int.add_mul_ediv_left _ _ (by omega), ← hq]
    have : (k * x + r) / B + k * (l + 18446744073709551616 * H) = l * k + (k * x + r) / B + 18446744073709551616 * (k * H) := by grind
    rw [this, Int.add_mul_emod_self_left]
  · rw [hm, h10, ← Int.ediv_ediv_of_nonneg (Int.le_of_lt hp), Int.add_mul_ediv_left _ _ (by omega), Int.add_comm]
theorem cyK_last {k q r : Int} {n : Nat} (q0 : 0 ≤ q) (q1 : q < (18446744073709551616 : Int) ^ n) (h0 : 0 ≤ k * q + r) (h1 : k * q + r < (18446744073709551616 : Int) ^ n) : cyK k q r n = 0 := by
  unfold cyK
  rw [Int.emod_eq_of_lt q0 q1]
  exact Int.ediv_eq_zero_of_lt h0 h1
theorem mulAdd02_int (a b c : Int) (a0 : 0 ≤ a) (a1 : a < 18446744073709551616) (b0 : 0 ≤ b) (b1 : b < 18446744073709551616) (c0 : 0 ≤ c) (c1 : c < 18446744073709551616) (w : World) :
    Calls Tryd.prog 17 #[.int .u64 a, .int .u64 b, .int .u64 c, .int .u64 0] w fun e w' => e = .returned (.tuple #[.int .u64 ((a * b + c) / 18446744073709551616), .int .u64 ((a * b + c) % 18446744073709551616)]) ∧ w = w' := by
  obtain ⟨a, rfl⟩ := Int.eq_ofNat_of_zero_le a0
  obtain ⟨b, rfl⟩ := Int.eq_ofNat_of_zero_le b0
  obtain ⟨c, rfl⟩ := Int.eq_ofNat_of_zero_le c0
  exact mulAdd02_any a b c (by omega) (by omega) (by omega) w
set_option maxRecDepth 100000 in
theorem divSmall_bad (n : Nat) (d : Int) (h : n < 1 ∨ 8 < n ∨ d = 0) (A : Option Addr) (c : Nat) (w : World) :
    Calls Tryd.prog 16 #[.slice A n c, .int .u64 d] w fun e w' => e = .returned (.tuple #[.slice none 0 0, .int .u64 0]) ∧ w = w' := by
  by_cases h1 : (n : Int) < 1
  · go_enter Tryd.func16, Tryd.ntmps16
    go_wp2
    go_ret2
    exact ⟨rfl, rfl⟩
  · by_cases h8 : 8 < (n : Int)
    · go_enter Tryd.func16, Tryd.ntmps16
      go_wp2
      go_ret2
      exact ⟨rfl, rfl⟩
    · obtain rfl : d = 0 := by omega
      clear h
      go_enter Tryd.func16, Tryd.ntmps16
      go_wp2
      go_ret2
      exact ⟨rfl, rfl⟩
set_option maxRecDepth 100000 in
set_option maxHeartbeats 2000000 in
theorem lawDivides04 (l : List Int) (A : Option Addr) (c : Nat) (d : Int) (d0 : 0 ≤ d) (d1 : d < 18446744073709551616) (w : World) (hs : Sl w w.heap.size A (uCs l)) (hu : L64 l) (hw : MWords w) (hwg : 2 < w.heap.size) :
    Calls Tryd.prog 7 #[.slice A l.length c, .int .u64 d] w fun e w' => e = .returned (.bool true) ∧ Below w.heap.size w w' := by
  have AL : Hid (∀ wx, Below w.heap.size w wx → Calls Tryd.prog 9 #[] wx fun e w' => e = .returned (.bool true) ∧ Below wx.heap.size wx w') := hide fun wx hb =>
    alive_true wx (words_at hw hwg hb).1 (words_at hw hwg hb).2
  have IS : Hid (∀ wx, _) := hide fun wx => isU_any A l.length c wx
  have HS := hide hs; have HU := hide hu
  clear hw hwg hs hu
  by_cases hl : 50 < (l.length : Int)
  · go_enter Tryd.func7, Tryd.ntmps7
    go_wp2_with fail
    refine (AL.out _ (Below.refl _ _)).mono ?_
    rintro e w1 ⟨rfl, hb1⟩
    go_wp2
    go_ret
    exact ⟨rfl, hb1⟩
  · by_cases hg : (1 ≤ l.length ∧ l.length ≤ 8) ∧ 0 < d
    · obtain ⟨hn, hd⟩ := hg
      obtain ⟨v, hv⟩ : ∃ v, v = valL l := ⟨_, rfl⟩
      have hvb := valL_bd l HU.out
      rw [← hv] at hvb
      have hvl : lims l.length v = l := by rw [hv]; exact (lims_of rfl HU.out rfl).symm
      obtain ⟨n, hnl⟩ : ∃ n, n = l.length := ⟨_, rfl⟩
      rw [← hnl] at hvb hvl IS hl hn ⊢
      have DS := hide (divSmall_any n v d hn.1 hn.2 hvb.1 hvb.2 hd d1 A c w (by rw [hvl]; exact HS.out))
      have q0 : 0 ≤ v / d := Int.ediv_nonneg hvb.1 (by omega)
      have q1 : v / d < (18446744073709551616 : Int) ^ n := Int.lt_of_le_of_lt (Int.ediv_le_self _ hvb.1) hvb.2
      have hqr : d * (v / d) + v % d = v := Int.mul_ediv_add_emod v d
      have r0 := Int.emod_nonneg v (show d ≠ 0 by omega)
      have r1 := Int.emod_lt_of_pos v hd
      have HLast := hide (cyK_last (k := d) (q := v / d) (r := v % d) (n := n) q0 q1 (by rw [hqr]; exact hvb.1) (by rw [hqr]; exact hvb.2))
      have HVL := hide hvl
      have ISg : Hid (∀ wx, Calls Tryd.prog 15 #[.slice A n c] wx fun e w' => e = .returned (.bool true) ∧ wx = w') := hide fun wx => by
        have := IS.out wx
        rw [decide_eq_true hn] at this
        exact this
      have hn8 := hn.2
      have hn1 := hn.1
      have HQR := hide hqr
      clear IS hv hvb hnl hn q0 q1 hqr hvl
      obtain ⟨q, hq⟩ : ∃ q, q = v / d := ⟨_, rfl⟩
      obtain ⟨r, hr⟩ : ∃ r, r = v % d := ⟨_, rfl⟩
      rw [← hr] at DS HLast HQR r0 r1
      rw [← hq] at DS HLast HQR
      have nr : ¬ d ≤ r := by omega
      clear hq hr
      have hdb : (d == 0) = false := by simp; omega
      go_enter Tryd.func7, Tryd.ntmps7
      go_wp2_with fail
      refine DS.out.mono ?_
      rintro e w1 ⟨A1, rfl, hb1, hs1⟩
      go_wp2_with fail
      refine (ISg.out _).mono ?_
      rintro e w' ⟨rfl, rfl⟩
      have HS1 := hide hs1.any
      have HSA := hide ((HS.out.below hb1).more hb1.size)
      clear hs1
      go_wp2
      go_loopw [51, 7] (fun i cy wr => ∃ k : Nat, k ≤ n ∧ i = .int .i64 k ∧ cy = .int .u64 (cyK d q r k) ∧ Below w1.heap.size w1 wr)
        (fun i _ _ => n - (intOf i).toNat)
      case atStart => exact ⟨0, by omega, rfl, by rw [cyK_zero], Below.refl _ _⟩
      case round =>
        obtain ⟨k, hk, rfl, rfl, hbr⟩ := hrel
        by_cases hlt : k < n
        · have hx := lims_get q hlt
          have ha : l[k]? = some (lim v k) := by rw [← HVL.out]; exact lims_get v hlt
          obtain ⟨b1, o1, rfl, _, h1⟩ := (HS1.out.below hbr).u (by rw [lims_length]; omega)
          obtain ⟨b2, o2, rfl, _, h2⟩ := (HSA.out.below hbr).u (by have := (List.getElem?_eq_some_iff.1 ha).1; omega)
          have c1 := h1 k _ hx
          have c2 := h2 k _ ha
          obtain ⟨s1, s2⟩ := mulK_step d q r k
          rw [HQR.out] at s1
          have hcb := cyK_bd q r0 r1 k
          have hxb := lim_bd q k
          have HM := hide (fun wx => mulAdd02_int (lim q k) d (cyK d q r k) hxb.1 hxb.2 d0 d1 hcb.1 (by omega) wx)
          rw [← s1, ← s2] at HM
          generalize lim q k = x at *
          generalize lim v k = y at *
          generalize hC2 : cyK d q r (k + 1) = C2 at *
          generalize cyK d q r k = C at *
          have HC2 := hide hC2
          have hkn : (k : Int) < (n : Int) := by omega
          have hk0 : (0 : Int) ≤ (k : Int) := by omega
          clear h1 h2 hx ha s1 s2 hC2 hxb hcb
          go_wp2_with fail
          refine (HM.out _).mono ?_
          rintro e w' ⟨rfl, rfl⟩
          go_wp2
          go_roundw
          case rel => exact ⟨k + 1, by omega, by go_num, by rw [HC2.out], hbr⟩
          case measure => simp [intOf]; omega
        · obtain rfl : n = k := by omega
          rw [HLast.out]
          have hB := bl_step hb1 hbr
          go_wp2_with fail
          refine (AL.out _ hB).mono ?_
          rintro e w3 ⟨rfl, hb3⟩
          go_wp2
          go_ret
          exact ⟨rfl, bl_step hB hb3⟩
    · have hbad : l.length < 1 ∨ 8 < l.length ∨ d = 0 := by omega
      have DS := hide (divSmall_bad l.length d hbad A c w)
      by_cases hn : 1 ≤ l.length ∧ l.length ≤ 8
      · obtain rfl : d = 0 := by omega
        have ISg : Hid (∀ wx, Calls Tryd.prog 15 #[.slice A l.length c] wx fun e w' => e = .returned (.bool true) ∧ wx = w') := hide fun wx => by
          have := IS.out wx
          rw [decide_eq_true hn] at this
          exact this
        clear IS hbad hg
        go_enter Tryd.func7, Tryd.ntmps7
        go_wp2_with fail
        refine DS.out.mono ?_
        rintro e w' ⟨rfl, rfl⟩
        go_wp2_with fail
        refine (ISg.out _).mono ?_
        rintro e w' ⟨rfl, rfl⟩
        go_wp2_with fail
        refine (AL.out _ (Below.refl _ _)).mono ?_
        rintro e w1 ⟨rfl, hb1⟩
        go_wp2
        go_ret
        exact ⟨rfl, hb1⟩
      · have ISg : Hid (∀ wx, Calls Tryd.prog 15 #[.slice A l.length c] wx fun e w' => e = .returned (.bool false) ∧ wx = w') := hide fun wx => by
          have := IS.out wx
          rw [decide_eq_false hn] at this
          exact this
        clear IS hbad hg
        go_enter Tryd.func7, Tryd.ntmps7
        go_wp2_with fail
        refine DS.out.mono ?_
        rintro e w' ⟨rfl, rfl⟩
        go_wp2_with fail
        refine (ISg.out _).mono ?_
        rintro e w' ⟨rfl, rfl⟩
        go_wp2_with fail
        refine (AL.out _ (Below.refl _ _)).mono ?_
        rintro e w1 ⟨rfl, hb1⟩
        go_wp2
        go_ret
        exact ⟨rfl, hb1⟩
end Go.Proofs.YthdpbmpdiaencaaDoor
