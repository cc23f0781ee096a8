/- math/bits.Div64: two words divided by one. -/
import Derived.Test.YthdpbmpdiaencaaDoorWords
import Derived.Test.YthdpbmpdiaencaaDoorKnuth
import Derived.Test.YthdpbmpdiaencaaDoorLaid
import Derived.Deep.CutBlock
import Derived.Laws.Bits64b
import Derived.Shelf.Bits.Mul64
import Derived.Shelf.Small.Bits
namespace Go.Proofs.YthdpbmpdiaencaaDoor
open Go.RowKit

theorem bl_bd : ∀ (f x : Nat), x < 2 ^ f → x < 2 ^ Lib.bitLenAux f x ∧ (x ≠ 0 → 2 ^ Lib.bitLenAux f x ≤ 2 * x)
  | 0, x, h => by
    have : x = 0 := by omega
    subst this
    exact ⟨by decide, fun h => absurd rfl h⟩
  | f + 1, x, h => by
    by_cases hx : x = 0
    · subst hx
      exact ⟨by simp [Lib.bitLenAux], fun h => absurd rfl h⟩
    · rw [Nat.pow_succ] at h
      obtain ⟨h1, h2⟩ := bl_bd f (x / 2) (by omega)
      rw [Lib.bitLenAux, if_neg hx, Nat.add_comm, Nat.pow_succ]
      refine ⟨by omega, fun _ => ?_⟩
      by_cases h0 : x / 2 = 0
      · rw [h0]
        have : Lib.bitLenAux f 0 = 0 := by cases f <;> rfl
        rw [this]
        omega
      · have := h2 h0
        omega
theorem clz_pos {y : Nat} (h0 : 0 < y) (hy : y < 18446744073709551616) : ∃ s : Nat, s ≤ 63 ∧ (64 - (Lib.bitLen y : Int)) = (s : Int) ∧ 9223372036854775808 ≤ y * 2 ^ s ∧ y * 2 ^ s < 18446744073709551616 := by
  have hb := Lib.bitLen_le y 64 (Nat.le_refl _) hy
  obtain ⟨h1, h2⟩ := bl_bd 64 y hy
  have h2 := h2 (by omega)
  change y < 2 ^ Lib.bitLen y at h1
  change 2 ^ Lib.bitLen y ≤ 2 * y at h2
  generalize Lib.bitLen y = b at *
  have hb0 : b ≠ 0 := by
    rintro rfl
    omega
  have e : 2 ^ b * 2 ^ (64 - b) = 18446744073709551616 := by rw [← Nat.pow_add, Nat.add_sub_cancel' hb]
  have g1 := Nat.mul_lt_mul_of_pos_right h1 (Nat.two_pow_pos (64 - b))
  have g2 := Nat.mul_le_mul_right (2 ^ (64 - b)) h2
  rw [e] at g1 g2
  rw [Nat.mul_assoc] at g2
  exact ⟨64 - b, by omega, by omega, by omega, by omega⟩
set_option maxRecDepth 100000 in
theorem lz64_any (y : Nat) (hy : y < 18446744073709551616) (w : World) : Calls Tryd.prog 63 #[.int .u64 (y : Int)] w fun e w' => e = .returned (.int .i64 (64 - (Lib.bitLen y : Int))) ∧ w' = w := by
  exact Any.bits_LeadingZeros64 Tryd.lays134 (y : Int) w (by omega) (by omega)
theorem or_add {a b s : Nat} (h : a * 2 ^ s < 18446744073709551616) (hbl : b < 18446744073709551616) (hb : b < 2 ^ s) : bits .or .u64 ((a * 2 ^ s : Nat) : Int) (b : Int) = ((a * 2 ^ s + b : Nat) : Int) := by
  rw [bits_or_u64_nat _ _ h hbl, Nat.mul_comm, Nat.two_pow_add_eq_or_of_lt hb]
set_option maxRecDepth 100000 in
set_option maxHeartbeats 4000000 in
theorem div64_any (hi lo y : Nat) (h : hi < y) (hy : y < 18446744073709551616) (hlo : lo < 18446744073709551616) (w : World) :
    Calls Tryd.prog 38 #[.int .u64 (hi : Int), .int .u64 (lo : Int), .int .u64 (y : Int)] w fun e w' =>
      e = .returned (.tuple #[.int .u64 (((hi * 18446744073709551616 + lo) / y : Nat) : Int), .int .u64 (((hi * 18446744073709551616 + lo) % y : Nat) : Int)]) ∧ Below w.heap.size w w' := by
  by_cases hz : hi = 0
  · subst hz
    have hle : lo / y ≤ lo := Nat.div_le_self _ _
    have e1 : IntKind.u64.wrap ((lo : Int) / (y : Int)) = ((((0 * 18446744073709551616 + lo) / y : Nat)) : Int) := by
      rw [Nat.zero_mul, Nat.zero_add, ← Int.natCast_ediv]
      exact Mul64.wrapN _ (by omega)
    have e2 : (lo : Int) % (y : Int) = ((((0 * 18446744073709551616 + lo) % y : Nat)) : Int) := by
      rw [Nat.zero_mul, Nat.zero_add, ← Int.natCast_emod]
    have HE := hide (And.intro e1 e2)
    clear e1 e2 hle
    have hy0 : (y : Int) ≠ 0 := by omega
    go_enter Tryd.func38, Tryd.ntmps38
    go_wp2
    go_region
    go_wp2
    go_ret2
    refine ⟨?_, bl_drew (.refl _ _)⟩
    rw [← HE.out.1, ← HE.out.2]
    rfl
  · obtain ⟨s, hs, hse, hn1, hn2⟩ := clz_pos (y := y) (by omega) hy
    have HL := lz64_any y hy w
    rw [hse] at HL
    clear hse
    have hsh := shl_two (hi := hi) (lo := lo) (s := s) (by omega)
    have hul : hi * 2 ^ s + lo / 2 ^ (64 - s) < y * 2 ^ s := by
      have h1 := Nat.mul_lt_mul_of_pos_right hlo (Nat.two_pow_pos s)
      have h2 := Nat.mul_le_mul_right (2 ^ s) (show hi + 1 ≤ y from h)
      rw [Nat.succ_mul] at h2
      have h3 : lo / 2 ^ (64 - s) < 2 ^ s := by
        rw [Nat.div_lt_iff_lt_mul (Nat.two_pow_pos _), ← Nat.pow_add, Nat.add_sub_cancel' (by omega)]
        exact hlo
      omega
    have hor : bits .or .u64 ((hi * 2 ^ s : Nat) : Int) ((lo / 2 ^ (64 - s) : Nat) : Int) = ((hi * 2 ^ s + lo / 2 ^ (64 - s) : Nat) : Int) := by
      refine or_add ?_ ?_ ?_
      · have := Nat.mul_le_mul_right (2 ^ s) (Nat.le_of_lt h)
        omega
      · exact Nat.lt_of_le_of_lt (Nat.div_le_self _ _) hlo
      · rw [Nat.div_lt_iff_lt_mul (Nat.two_pow_pos _), ← Nat.pow_add, Nat.add_sub_cancel' (by omega)]
        exact hlo
    have f1 : IntKind.u64.wrap ((y : Int) * 2 ^ s) = ((y * 2 ^ s : Nat) : Int) := by
      have : (y : Int) * 2 ^ s = ((y * 2 ^ s : Nat) : Int) := by rw [Int.natCast_mul, Int.natCast_pow]; rfl
      rw [this]
      exact Mul64.wrapN _ hn2
    have f4 : bits .or .u64 (IntKind.u64.wrap ((hi : Int) * 2 ^ s)) ((lo : Int) / 2 ^ (64 - s)) = ((hi * 2 ^ s + lo / 2 ^ (64 - s) : Nat) : Int) := by
      have e1 : (hi : Int) * 2 ^ s = ((hi * 2 ^ s : Nat) : Int) := by rw [Int.natCast_mul, Int.natCast_pow]; rfl
      have e2 : (lo : Int) / 2 ^ (64 - s) = ((lo / 2 ^ (64 - s) : Nat) : Int) := by rw [Int.natCast_ediv, Int.natCast_pow]; rfl
      rw [e1, e2, Mul64.wrapN _ (Nat.lt_of_le_of_lt (Nat.le_add_right _ _) (Nat.lt_trans hul hn2)), hor]
    have f5 : IntKind.u64.wrap ((lo : Int) * 2 ^ s) = ((lo * 2 ^ s % 18446744073709551616 : Nat) : Int) := by
      have e1 : (lo : Int) * 2 ^ s = ((lo * 2 ^ s : Nat) : Int) := by rw [Int.natCast_mul, Int.natCast_pow]; rfl
      rw [e1]
      exact Mul64.wrapM _
    obtain ⟨Y, hY⟩ : ∃ Y, Y = y * 2 ^ s := ⟨_, rfl⟩
    obtain ⟨u, hu⟩ : ∃ u, u = hi * 2 ^ s + lo / 2 ^ (64 - s) := ⟨_, rfl⟩
    obtain ⟨L, hL⟩ : ∃ L, L = lo * 2 ^ s % 18446744073709551616 := ⟨_, rfl⟩
    rw [← hY] at f1 hn1 hn2 hul
    rw [← hu] at f4 hsh hul
    rw [← hL] at f5 hsh
    have hL6 : L < 18446744073709551616 := by omega
    clear hu hL hor
    obtain ⟨y1, hy1⟩ : ∃ y1, y1 = Y / 4294967296 := ⟨_, rfl⟩
    obtain ⟨y0, hy0⟩ : ∃ y0, y0 = Y % 4294967296 := ⟨_, rfl⟩
    obtain ⟨u1, hu1⟩ : ∃ u1, u1 = L / 4294967296 := ⟨_, rfl⟩
    obtain ⟨u0, hu0⟩ : ∃ u0, u0 = L % 4294967296 := ⟨_, rfl⟩
    have f2 : (Y : Int) / 4294967296 = (y1 : Int) := by omega
    have f3 : bits .and .u64 (Y : Int) 4294967295 = (y0 : Int) := by rw [hy0]; exact Mul64.maskN Y hn2
    have f6 : (L : Int) / 4294967296 = (u1 : Int) := by omega
    have f7 : bits .and .u64 (L : Int) 4294967295 = (u0 : Int) := by rw [hu0]; exact Mul64.maskN L hL6
    have hYs : Y = y1 * 4294967296 + y0 := by omega
    have b1 : 2147483648 ≤ y1 := by omega
    have b0 : y0 < 4294967296 := by omega
    have bu1 : u1 < 4294967296 := by omega
    have bu0 : u0 < 4294967296 := by omega
    have hLs : L = u1 * 4294967296 + u0 := by omega
    have K0 := KI.init (u := u) y0 (show 0 < y1 by omega) bu1
    have k1 := K0.qle (by omega) b1 b0
    have k2 : u - u / y1 * y1 < 4294967296 := by
      have := Nat.mod_lt u (show y1 > 0 by omega)
      have := Nat.div_add_mod' u y1
      omega
    have f8 : IntKind.u64.wrap ((u : Int).tdiv (y1 : Int)) = ((u / y1 : Nat) : Int) := by
      have : (u : Int).tdiv (y1 : Int) = ((u / y1 : Nat) : Int) := rfl
      rw [this]
      exact Mul64.wrapN _ (by omega)
    have f9 : IntKind.u64.wrap ((u : Int) - IntKind.u64.wrap (((u / y1 : Nat) : Int) * (y1 : Int))) = ((u - u / y1 * y1 : Nat) : Int) := by
      have hle := Nat.div_mul_le_self u y1
      rw [← Int.natCast_mul]
      generalize u / y1 * y1 = A at *
      rw [Mul64.wrapN A (by omega), IntKind.wrap_u64]
      omega
    obtain ⟨q, hq⟩ : ∃ q, q = u / y1 := ⟨_, rfl⟩
    obtain ⟨r, hr⟩ : ∃ r, r = u - q * y1 := ⟨_, rfl⟩
    rw [← hq] at f8 f9 K0 k1 k2
    rw [← hr] at f9 K0 k2
    clear hq hr
    have F := hide (And.intro f1 (And.intro f2 (And.intro f3 (And.intro f4 (And.intro f5 (And.intro f6 (And.intro f7 (And.intro f8 f9))))))))
    clear f1 f2 f3 f4 f5 f6 f7 f8 f9
    --WALK
    go_enter Tryd.func38, Tryd.ntmps38
    go_wp2_with fail
    refine HL.mono ?_
    rintro e w' ⟨rfl, hw⟩
    subst hw
    go_upto_block 0 with fail
    · rename_i hbad
      obtain ⟨f1, f2, -⟩ := F.out
      rw [f1, f2] at hbad
      omega
    obtain ⟨f1, f2, f3, f4, f5, f6, f7, f8, f9⟩ := F.out
    simp only [f1, f2, f3, f4, f5, f6, f7, f8, f9]
    clear f1 f2 f3 f4 f5 f6 f7 f8 f9 hy1 hy0 hu1 hu0 F
    have HY := hide hYs; have HY2 := hide hY; have HLs := hide hLs; have HSH := hide hsh
    have b1' : y1 < 4294967296 := by omega
    have huy : u < y1 * 4294967296 + y0 := by omega
    clear hYs hY hLs hsh hul hn1 hn2 HL hL6
    go_cut [15, 16] from 67 to 85 (fun a b wc => ∃ q r : Nat, a = .int .u64 (q : Int) ∧ b = .int .u64 (r : Int) ∧ KD u y1 y0 u1 q ∧ wc = w')

    · go_wp2_with fail
      go_loopw [15, 16] (fun a b wr => ∃ q r : Nat, a = .int .u64 (q : Int) ∧ b = .int .u64 (r : Int) ∧ KI u y1 y0 u1 q r ∧ q ≤ 4294967297 ∧ r < 4294967296 ∧ wr = w')
        (fun a _ _ => (Lib.intOf a).toNat)
      case atStart => exact ⟨_, _, rfl, rfl, K0, k1, k2, rfl⟩
      case round =>
        clear K0 k1 k2
        obtain ⟨q, r, rfl, rfl, hK, hq, hr, rfl⟩ := hrel
        have hcases : (4294967296 ≤ q ∨ 4294967296 * r + u1 < q * y0) ∨ (q < 4294967296 ∧ q * y0 ≤ 4294967296 * r + u1) := by
          generalize q * y0 = A
          omega
        have g1 : q < 4294967296 → IntKind.u64.wrap ((q : Int) * (y0 : Int)) = ((q * y0 : Nat) : Int) := by
          intro hlt
          rw [← Int.natCast_mul]
          refine Mul64.wrapN _ ?_
          have h1 := Nat.mul_le_mul (show q ≤ 4294967295 by omega) (show y0 ≤ 4294967295 by omega)
          omega
        obtain ⟨P, hP⟩ : ∃ P, P = q * y0 := ⟨_, rfl⟩
        rw [← hP] at g1 hcases
        have g2 : IntKind.u64.wrap (4294967296 * (r : Int)) = 4294967296 * (r : Int) := by rw [IntKind.wrap_u64]; omega
        have g3 : IntKind.u64.wrap (4294967296 * (r : Int) + (u1 : Int)) = 4294967296 * (r : Int) + (u1 : Int) := by rw [IntKind.wrap_u64]; omega
        rcases hcases with hc | ⟨hc1, hc2⟩
        · obtain ⟨hq1, hK1⟩ := hK.step (by rw [← hP]; exact hc) huy bu1
          have g4 : IntKind.u64.wrap ((q : Int) - 1) = ((q - 1 : Nat) : Int) := by rw [IntKind.wrap_u64]; omega
          have g5 : IntKind.u64.wrap ((r : Int) + (y1 : Int)) = ((r + y1 : Nat) : Int) := by rw [IntKind.wrap_u64]; omega
          obtain ⟨r1, hr1⟩ : ∃ r1, r1 = r + y1 := ⟨_, rfl⟩
          rw [← hr1] at hK1 g5
          by_cases hb : 4294967296 ≤ r1
          · have hKD := hide (hK1.brk huy b0 hb)
            clear hK hK1 hr1 hP
            by_cases hqq : 4294967296 ≤ q
            · have gq : ¬ (q : Int) < 4294967296 := by omega
              have gq2 : (4294967296 : Int) ≤ (q : Int) := by omega
              have gb2 : (4294967296 : Int) ≤ (r1 : Int) := by omega
              clear g1 g2 g3 hc hb hqq
              go_wp2
              go_meet
              case rel => exact ⟨_, _, rfl, rfl, hKD.out, rfl⟩
            · have gq' : q < 4294967296 := by omega
              have g1 := g1 gq'
              have gq : (q : Int) < 4294967296 := by omega
              have gq2 : ¬ (4294967296 : Int) ≤ (q : Int) := by omega
              have gP : 4294967296 * (r : Int) + (u1 : Int) < (P : Int) := by omega
              have gb2 : (4294967296 : Int) ≤ (r1 : Int) := by omega
              clear hc hqq hb gq'
              go_wp2
              go_meet
              case rel => exact ⟨_, _, rfl, rfl, hKD.out, rfl⟩
          · have k1 := hK1.qle huy b1 b0
            have hb' : r1 < 4294967296 := by omega
            have HK := hide hK1
            clear hK hK1 hr1 hP
            have gb : (r1 : Int) < 4294967296 := by omega
            have gb2 : ¬ (4294967296 : Int) ≤ (r1 : Int) := by omega
            by_cases hqq : 4294967296 ≤ q
            · have gq2 : (4294967296 : Int) ≤ (q : Int) := by omega
              clear g1 g2 g3 hc hb
              go_wp2
              go_roundw
              case rel => exact ⟨_, _, rfl, rfl, HK.out, k1, hb', by first | trivial | rfl⟩
              case measure => simp [Lib.intOf]; omega
            · have gq' : q < 4294967296 := by omega
              have g1 := g1 gq'
              have gq : (q : Int) < 4294967296 := by omega
              have gq2 : ¬ (4294967296 : Int) ≤ (q : Int) := by omega
              have gP : 4294967296 * (r : Int) + (u1 : Int) < (P : Int) := by omega
              clear hc hb
              go_wp2
              go_roundw
              case rel => exact ⟨_, _, rfl, rfl, HK.out, k1, hb', by first | trivial | rfl⟩
              case measure => simp [Lib.intOf]; omega
        · have hKD := hide (hK.done hc1 (by rw [← hP]; exact hc2))
          have g1 := g1 hc1
          have gq : (q : Int) < 4294967296 := by omega
          have gq2 : ¬ (4294967296 : Int) ≤ (q : Int) := by omega
          have gP2 : (P : Int) ≤ 4294967296 * (r : Int) + (u1 : Int) := by omega
          have gP : ¬ 4294967296 * (r : Int) + (u1 : Int) < (P : Int) := by omega
          clear hc1 hc2
          clear hK hP
          go_wp2
          go_meet
          case rel => exact ⟨_, _, rfl, rfl, hKD.out, rfl⟩
    · obtain ⟨q1, r1, rfl, rfl, hD1, hwc⟩ := hcut
      subst hwc
      clear K0 k1 k2 huy
      obtain ⟨v, hv⟩ : ∃ v, v = KD.left u y1 y0 u1 q1 := ⟨_, rfl⟩
      obtain ⟨hE, hvy⟩ := hD1.eq
      have hq1 := hD1.lt
      rw [← hv] at hE hvy
      rw [← HY.out] at hE
      have HD1 := hide hD1; have HV := hide hv
      clear hD1 hv
      have f10 : IntKind.u64.wrap (IntKind.u64.wrap (IntKind.u64.wrap ((u : Int) * 4294967296) + (u1 : Int)) - IntKind.u64.wrap ((q1 : Int) * (Y : Int))) = (v : Int) := by
        rw [← Int.natCast_mul]
        have hvb : v < 18446744073709551616 := by omega
        generalize q1 * Y = B at *
        simp only [IntKind.wrap_u64]
        omega
      clear hE
      have hvy2 := hvy
      have L0 := KI.init (u := v) y0 (show 0 < y1 by omega) bu0
      have m1 := L0.qle hvy b1 b0
      have m2 : v - v / y1 * y1 < 4294967296 := by
        have := Nat.mod_lt v (show y1 > 0 by omega)
        have := Nat.div_add_mod' v y1
        omega
      have f11 : IntKind.u64.wrap ((v : Int) / (y1 : Int)) = ((v / y1 : Nat) : Int) := by
        rw [← Int.natCast_ediv]
        exact Mul64.wrapN _ (by omega)
      have f12 : IntKind.u64.wrap ((v : Int) - IntKind.u64.wrap (((v / y1 : Nat) : Int) * (y1 : Int))) = ((v - v / y1 * y1 : Nat) : Int) := by
        have hle := Nat.div_mul_le_self v y1
        rw [← Int.natCast_mul]
        generalize v / y1 * y1 = A at *
        rw [Mul64.wrapN A (by omega), IntKind.wrap_u64]
        omega
      obtain ⟨q, hq⟩ : ∃ q, q = v / y1 := ⟨_, rfl⟩
      obtain ⟨r, hr⟩ : ∃ r, r = v - q * y1 := ⟨_, rfl⟩
      rw [← hq] at f11 f12 L0 m1 m2
      rw [← hr] at f12 L0 m2
      clear hq hr
      have G := hide (And.intro f11 f12)
      clear f11 f12
      have HQ1 := hide hq1
      clear hq1
      go_upto_block 2 with fail
      obtain ⟨f11, f12⟩ := G.out
      simp only [f11, f12]
      clear f11 f12 f10 G
      go_cut [18, 16] from 102 to 120 (fun a b wd => ∃ q r : Nat, a = .int .u64 (q : Int) ∧ b = .int .u64 (r : Int) ∧ KD v y1 y0 u0 q ∧ wd = wc)

      · go_wp2_with fail
        go_loopw [18, 16] (fun a b wr => ∃ q r : Nat, a = .int .u64 (q : Int) ∧ b = .int .u64 (r : Int) ∧ KI v y1 y0 u0 q r ∧ q ≤ 4294967297 ∧ r < 4294967296 ∧ wr = wc)
          (fun a _ _ => (Lib.intOf a).toNat)
        case atStart => exact ⟨_, _, rfl, rfl, L0, m1, m2, rfl⟩
        case round =>
          clear L0 m1 m2
          obtain ⟨q, r, rfl, rfl, hK, hq, hr, rfl⟩ := hrel
          have hcases : (4294967296 ≤ q ∨ 4294967296 * r + u0 < q * y0) ∨ (q < 4294967296 ∧ q * y0 ≤ 4294967296 * r + u0) := by
            generalize q * y0 = A
            omega
          have g1 : q < 4294967296 → IntKind.u64.wrap ((q : Int) * (y0 : Int)) = ((q * y0 : Nat) : Int) := by
            intro hlt
            rw [← Int.natCast_mul]
            refine Mul64.wrapN _ ?_
            have h1 := Nat.mul_le_mul (show q ≤ 4294967295 by omega) (show y0 ≤ 4294967295 by omega)
            omega
          obtain ⟨P, hP⟩ : ∃ P, P = q * y0 := ⟨_, rfl⟩
          rw [← hP] at g1 hcases
          have g2 : IntKind.u64.wrap (4294967296 * (r : Int)) = 4294967296 * (r : Int) := by rw [IntKind.wrap_u64]; omega
          have g3 : IntKind.u64.wrap (4294967296 * (r : Int) + (u0 : Int)) = 4294967296 * (r : Int) + (u0 : Int) := by rw [IntKind.wrap_u64]; omega
          rcases hcases with hc | ⟨hc1, hc2⟩
          · obtain ⟨hq1, hK1⟩ := hK.step (by rw [← hP]; exact hc) hvy bu0
            have g4 : IntKind.u64.wrap ((q : Int) - 1) = ((q - 1 : Nat) : Int) := by rw [IntKind.wrap_u64]; omega
            have g5 : IntKind.u64.wrap ((r : Int) + (y1 : Int)) = ((r + y1 : Nat) : Int) := by rw [IntKind.wrap_u64]; omega
            obtain ⟨r1, hr1⟩ : ∃ r1, r1 = r + y1 := ⟨_, rfl⟩
            rw [← hr1] at hK1 g5
            by_cases hb : 4294967296 ≤ r1
            · have hKD := hide (hK1.brk hvy b0 hb)
              clear hK hK1 hr1 hP
              by_cases hqq : 4294967296 ≤ q
              · have gq : ¬ (q : Int) < 4294967296 := by omega
                have gq2 : (4294967296 : Int) ≤ (q : Int) := by omega
                have gb2 : (4294967296 : Int) ≤ (r1 : Int) := by omega
                clear g1 g2 g3 hc hb hqq
                go_wp2
                go_meet
                case rel => exact ⟨_, _, rfl, rfl, hKD.out, rfl⟩
              · have gq' : q < 4294967296 := by omega
                have g1 := g1 gq'
                have gq : (q : Int) < 4294967296 := by omega
                have gq2 : ¬ (4294967296 : Int) ≤ (q : Int) := by omega
                have gP : 4294967296 * (r : Int) + (u0 : Int) < (P : Int) := by omega
                have gb2 : (4294967296 : Int) ≤ (r1 : Int) := by omega
                clear hc hqq hb gq'
                go_wp2
                go_meet
                case rel => exact ⟨_, _, rfl, rfl, hKD.out, rfl⟩
            · have k1 := hK1.qle hvy b1 b0
              have hb' : r1 < 4294967296 := by omega
              have HK := hide hK1
              clear hK hK1 hr1 hP
              have gb : (r1 : Int) < 4294967296 := by omega
              have gb2 : ¬ (4294967296 : Int) ≤ (r1 : Int) := by omega
              by_cases hqq : 4294967296 ≤ q
              · have gq2 : (4294967296 : Int) ≤ (q : Int) := by omega
                clear g1 g2 g3 hc hb
                go_wp2
                go_roundw
                case rel => exact ⟨_, _, rfl, rfl, HK.out, k1, hb', by first | trivial | rfl⟩
                case measure => simp [Lib.intOf]; omega
              · have gq' : q < 4294967296 := by omega
                have g1 := g1 gq'
                have gq : (q : Int) < 4294967296 := by omega
                have gq2 : ¬ (4294967296 : Int) ≤ (q : Int) := by omega
                have gP : 4294967296 * (r : Int) + (u0 : Int) < (P : Int) := by omega
                clear hc hb
                go_wp2
                go_roundw
                case rel => exact ⟨_, _, rfl, rfl, HK.out, k1, hb', by first | trivial | rfl⟩
                case measure => simp [Lib.intOf]; omega
          · have hKD := hide (hK.done hc1 (by rw [← hP]; exact hc2))
            have g1 := g1 hc1
            have gq : (q : Int) < 4294967296 := by omega
            have gq2 : ¬ (4294967296 : Int) ≤ (q : Int) := by omega
            have gP2 : (P : Int) ≤ 4294967296 * (r : Int) + (u0 : Int) := by omega
            have gP : ¬ 4294967296 * (r : Int) + (u0 : Int) < (P : Int) := by omega
            clear hc1 hc2
            clear hK hP
            go_wp2
            go_meet
            case rel => exact ⟨_, _, rfl, rfl, hKD.out, rfl⟩
      · obtain ⟨q2, r2, rfl, rfl, hD0, hwc⟩ := hcut
        subst hwc
        obtain ⟨z, hz⟩ : ∃ z, z = KD.left v y1 y0 u0 q2 := ⟨_, rfl⟩
        obtain ⟨hE, hzy⟩ := hD0.eq
        have hq2 := hD0.lt
        rw [← hz] at hE hzy
        have hD1 := HD1.out
        have hv := HV.out
        subst hv
        have hk := knuth (M := hi * 18446744073709551616 + lo) (d := y) (s := s) (q1 := q1) (q0 := q2) (by rw [← HY2.out]; exact HY.out) (by rw [← HSH.out, HLs.out]) hD1 hD0
        generalize KD.left u y1 y0 u1 q1 = v at *
        rw [← hz] at hk
        have hq1 := HQ1.out
        have f13 : IntKind.u64.wrap (IntKind.u64.wrap ((q1 : Int) * 4294967296) + (q2 : Int)) = (((hi * 18446744073709551616 + lo) / y : Nat) : Int) := by
          rw [← hk.1]
          simp only [IntKind.wrap_u64]
          omega
        have f14 : IntKind.u64.wrap (IntKind.u64.wrap (IntKind.u64.wrap ((v : Int) * 4294967296) + (u0 : Int)) - IntKind.u64.wrap ((q2 : Int) * (Y : Int))) = (z : Int) := by
          rw [← HY.out] at hE
          rw [← Int.natCast_mul]
          have hvb : z < 18446744073709551616 := by omega
          generalize q2 * Y = B at *
          simp only [IntKind.wrap_u64]
          omega
        have f15 : (z : Int) / 2 ^ s = (((hi * 18446744073709551616 + lo) % y : Nat) : Int) := by
          rw [← hk.2, Int.natCast_ediv, Int.natCast_pow]; rfl
        have F := hide (And.intro f13 (And.intro f14 f15))
        clear f13 f14 f15 hk hE hzy hz hq1 hq2 HQ1 hD0 hD1
        go_wp2
        go_ret2
        obtain ⟨g1, g2, g3⟩ := F.out
        refine ⟨?_, Below.refl _ _⟩
        rw [g1, g2, g3]
        rfl
end Go.Proofs.YthdpbmpdiaencaaDoor
