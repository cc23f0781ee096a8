/- The reference's sums and products of words (layer 2). -/
import Derived.Test.YthdpbmpdiaencaaDoorWords
import Derived.Laws.Externs
namespace Go.Proofs.YthdpbmpdiaencaaDoor
open Go.RowKit

set_option maxRecDepth 100000 in
theorem radd_any (a b : Int) (a0 : 0 ≤ a) (a1 : a < 18446744073709551616) (b0 : 0 ≤ b) (b1 : b < 18446744073709551616) (w : World) :
    Calls Tryd.prog 39 #[.int .u64 a, .int .u64 b, .int .u64 0] w fun e w' => e = .returned (.tuple #[.int .u64 ((a + b) % 18446744073709551616), .int .u64 ((a + b) / 18446744073709551616)]) ∧ w = w' := by
  by_cases h : a + b < 18446744073709551616
  · have e1 : IntKind.u64.wrap (a + b) = a + b := by rw [IntKind.wrap_u64]; omega
    have e2 : (a + b) % 18446744073709551616 = a + b := by omega
    have e3 : (a + b) / 18446744073709551616 = 0 := by omega
    have n1 : ¬ a + b < a := by omega
    rw [e2, e3]
    go_enter Tryd.func39, Tryd.ntmps39
    go_wp2
    go_ret2
    exact ⟨rfl, rfl⟩
  · have e1 : IntKind.u64.wrap (a + b) = a + b - 18446744073709551616 := by rw [IntKind.wrap_u64]; omega
    have e2 : (a + b) % 18446744073709551616 = a + b - 18446744073709551616 := by omega
    have e3 : (a + b) / 18446744073709551616 = 1 := by omega
    have n1 : a + b - 18446744073709551616 < a := by omega
    have e4 : IntKind.u64.wrap (a + b - 18446744073709551616) = a + b - 18446744073709551616 := by rw [IntKind.wrap_u64]; omega
    rw [e2, e3]
    obtain ⟨t, ht⟩ : ∃ t, t = a + b - 18446744073709551616 := ⟨_, rfl⟩
    rw [← ht] at e1 e4 n1 ⊢
    have n2 : ¬ t < t := by omega
    clear e2 e3 h ht
    go_enter Tryd.func39, Tryd.ntmps39
    go_wp2
    go_ret2
    exact ⟨rfl, rfl⟩
set_option maxRecDepth 100000 in
set_option maxHeartbeats 2000000 in
theorem mulAdd02_any (a b c : Nat) (ha : a < 18446744073709551616) (hb : b < 18446744073709551616) (hc : c < 18446744073709551616) (w : World) :
    Calls Tryd.prog 17 #[.int .u64 (a : Int), .int .u64 (b : Int), .int .u64 (c : Int), .int .u64 0] w fun e w' => e = .returned (.tuple #[.int .u64 (((a * b + c) / 18446744073709551616 : Nat) : Int), .int .u64 (((a * b + c) % 18446744073709551616 : Nat) : Int)]) ∧ w = w' := by
  have bd : ∀ p q : Nat, p < 4294967296 → q < 4294967296 → p * q ≤ 18446744065119617025 := fun p q hp hq => Nat.mul_le_mul (show p ≤ 4294967295 by omega) (show q ≤ 4294967295 by omega)
  have b1 := bd (a % 4294967296) (b % 4294967296) (by omega) (by omega)
  have b2 := bd (a % 4294967296) (b / 4294967296) (by omega) (by omega)
  have b3 := bd (a / 4294967296) (b % 4294967296) (by omega) (by omega)
  have b4 := bd (a / 4294967296) (b / 4294967296) (by omega) (by omega)
  have hP : a * b = a % 4294967296 * (b % 4294967296) + (a % 4294967296 * (b / 4294967296)) * 4294967296 + (a / 4294967296 * (b % 4294967296)) * 4294967296 + (a / 4294967296 * (b / 4294967296)) * 18446744073709551616 := by
    have ea := Nat.div_add_mod a 4294967296
    have eb := Nat.div_add_mod b 4294967296
    generalize a / 4294967296 = p at *
    generalize a % 4294967296 = q at *
    generalize b / 4294967296 = r at *
    generalize b % 4294967296 = s at *
    subst ea; subst eb
    grind
  have f1 : IntKind.u64.wrap ((a : Int) % 4294967296 * ((b : Int) % 4294967296)) = ((a % 4294967296 * (b % 4294967296) : Nat) : Int) := by
    have : (a : Int) % 4294967296 * ((b : Int) % 4294967296) = ((a % 4294967296 * (b % 4294967296) : Nat) : Int) := rfl
    rw [this, IntKind.wrap_u64]; omega
  have f2 : IntKind.u64.wrap ((a : Int) % 4294967296 * ((b : Int) / 4294967296)) = ((a % 4294967296 * (b / 4294967296) : Nat) : Int) := by
    have : (a : Int) % 4294967296 * ((b : Int) / 4294967296) = ((a % 4294967296 * (b / 4294967296) : Nat) : Int) := rfl
    rw [this, IntKind.wrap_u64]; omega
  have f3 : IntKind.u64.wrap ((a : Int) / 4294967296 * ((b : Int) % 4294967296)) = ((a / 4294967296 * (b % 4294967296) : Nat) : Int) := by
    have : (a : Int) / 4294967296 * ((b : Int) % 4294967296) = ((a / 4294967296 * (b % 4294967296) : Nat) : Int) := rfl
    rw [this, IntKind.wrap_u64]; omega
  have f4 : IntKind.u64.wrap ((a : Int) / 4294967296 * ((b : Int) / 4294967296)) = ((a / 4294967296 * (b / 4294967296) : Nat) : Int) := by
    have : (a : Int) / 4294967296 * ((b : Int) / 4294967296) = ((a / 4294967296 * (b / 4294967296) : Nat) : Int) := rfl
    rw [this, IntKind.wrap_u64]; omega
  have hlt : a * b + c < 18446744073709551616 * 18446744073709551616 := by
    have := Nat.mul_le_mul (show a ≤ 18446744073709551615 by omega) (show b ≤ 18446744073709551615 by omega)
    omega
  generalize a * b = P at *
  generalize a % 4294967296 * (b % 4294967296) = x at *
  generalize a % 4294967296 * (b / 4294967296) = y at *
  generalize a / 4294967296 * (b % 4294967296) = z at *
  generalize a / 4294967296 * (b / 4294967296) = t at *
  have y1 : (y : Int).tdiv 4294967296 = ((y / 4294967296 : Nat) : Int) := rfl
  have z1 : (z : Int).tdiv 4294967296 = ((z / 4294967296 : Nat) : Int) := rfl
  have y2 : (y : Int).tmod 4294967296 = ((y % 4294967296 : Nat) : Int) := rfl
  have z2 : (z : Int).tmod 4294967296 = ((z % 4294967296 : Nat) : Int) := rfl
  have y3 : (y : Int) / 4294967296 = ((y / 4294967296 : Nat) : Int) := rfl
  have z3 : (z : Int) / 4294967296 = ((z / 4294967296 : Nat) : Int) := rfl
  have y4 : (y : Int) % 4294967296 = ((y % 4294967296 : Nat) : Int) := rfl
  have z4 : (z : Int) % 4294967296 = ((z % 4294967296 : Nat) : Int) := rfl
  obtain ⟨yq, hyq⟩ : ∃ q, q = y / 4294967296 := ⟨_, rfl⟩
  obtain ⟨yr, hyr⟩ : ∃ q, q = y % 4294967296 := ⟨_, rfl⟩
  obtain ⟨zq, hzq⟩ : ∃ q, q = z / 4294967296 := ⟨_, rfl⟩
  obtain ⟨zr, hzr⟩ : ∃ q, q = z % 4294967296 := ⟨_, rfl⟩
  rw [← hyq] at y1 y3
  rw [← hyr] at y2 y4
  rw [← hzq] at z1 z3
  rw [← hzr] at z2 z4
  have w1 : IntKind.u64.wrap (yq : Int) = (yq : Int) := by rw [IntKind.wrap_u64]; omega
  have w2 : IntKind.u64.wrap (zq : Int) = (zq : Int) := by rw [IntKind.wrap_u64]; omega
  have k1 : IntKind.u64.wrap ((yr : Int) * 4294967296) = (yr : Int) * 4294967296 := by rw [IntKind.wrap_u64]; omega
  have k2 : IntKind.u64.wrap ((zr : Int) * 4294967296) = (zr : Int) * 4294967296 := by rw [IntKind.wrap_u64]; omega
  obtain ⟨m1, hm1⟩ : ∃ m1, m1 = (yr : Int) * 4294967296 := ⟨_, rfl⟩
  obtain ⟨m2, hm2⟩ : ∃ m2, m2 = (zr : Int) * 4294967296 := ⟨_, rfl⟩
  rw [← hm1] at k1
  rw [← hm2] at k2
  have A1 := hide (radd_any (x : Int) m1 (by omega) (by omega) (by omega) (by omega) w)
  have A2 := hide (radd_any (((x : Int) + m1) % 18446744073709551616) m2 (by omega) (by omega) (by omega) (by omega) w)
  have A3 := hide (radd_any ((((x : Int) + m1) % 18446744073709551616 + m2) % 18446744073709551616) (c : Int) (by omega) (by omega) (by omega) (by omega) w)
  have A4 := hide (radd_any (((((x : Int) + m1) % 18446744073709551616 + m2) % 18446744073709551616 + c) % 18446744073709551616) 0 (by omega) (by omega) (by omega) (by omega) w)
  have e1 : (((P + c) % 18446744073709551616 : Nat) : Int) = (((((x : Int) + m1) % 18446744073709551616 + m2) % 18446744073709551616 + c) % 18446744073709551616 + 0) % 18446744073709551616 := by omega
  have g1 : IntKind.u64.wrap ((t : Int) + yq) = (t : Int) + yq := by rw [IntKind.wrap_u64]; omega
  have g2 : IntKind.u64.wrap ((t : Int) + yq + zq) = (t : Int) + yq + zq := by rw [IntKind.wrap_u64]; omega
  obtain ⟨q1, hq1⟩ : ∃ q1, q1 = ((x : Int) + m1) / 18446744073709551616 := ⟨_, rfl⟩
  obtain ⟨q2, hq2⟩ : ∃ q2, q2 = (((x : Int) + m1) % 18446744073709551616 + m2) / 18446744073709551616 := ⟨_, rfl⟩
  obtain ⟨q3, hq3⟩ : ∃ q3, q3 = ((((x : Int) + m1) % 18446744073709551616 + m2) % 18446744073709551616 + c) / 18446744073709551616 := ⟨_, rfl⟩
  obtain ⟨q4, hq4⟩ : ∃ q4, q4 = (((((x : Int) + m1) % 18446744073709551616 + m2) % 18446744073709551616 + c) % 18446744073709551616 + 0) / 18446744073709551616 := ⟨_, rfl⟩
  have e2 : (((P + c) / 18446744073709551616 : Nat) : Int) = (t : Int) + yq + zq + q1 + q2 + q3 + q4 := by omega
  have g3 : IntKind.u64.wrap ((t : Int) + yq + zq + q1) = (t : Int) + yq + zq + q1 := by rw [IntKind.wrap_u64]; omega
  have g4 : IntKind.u64.wrap ((t : Int) + yq + zq + q1 + q2) = (t : Int) + yq + zq + q1 + q2 := by rw [IntKind.wrap_u64]; omega
  have g5 : IntKind.u64.wrap ((t : Int) + yq + zq + q1 + q2 + q3) = (t : Int) + yq + zq + q1 + q2 + q3 := by rw [IntKind.wrap_u64]; omega
  have g6 : IntKind.u64.wrap ((t : Int) + yq + zq + q1 + q2 + q3 + q4) = (t : Int) + yq + zq + q1 + q2 + q3 + q4 := by rw [IntKind.wrap_u64]; omega
  rw [← hq1] at A1
  rw [← hq2] at A2
  rw [← hq3] at A3
  rw [← hq4] at A4
  have E1 := hide e1; have E2 := hide e2
  obtain ⟨l1, hl1⟩ : ∃ l1, l1 = ((x : Int) + m1) % 18446744073709551616 := ⟨_, rfl⟩
  rw [← hl1] at A1 A2 A3 A4 E1
  obtain ⟨l2, hl2⟩ : ∃ l2, l2 = (l1 + m2) % 18446744073709551616 := ⟨_, rfl⟩
  rw [← hl2] at A2 A3 A4 E1
  obtain ⟨l3, hl3⟩ : ∃ l3, l3 = (l2 + c) % 18446744073709551616 := ⟨_, rfl⟩
  rw [← hl3] at A3 A4 E1
  obtain ⟨l4, hl4⟩ : ∃ l4, l4 = (l3 + 0) % 18446744073709551616 := ⟨_, rfl⟩
  rw [← hl4] at A4 E1
  have HM1 := hide hm1; have HM2 := hide hm2
  clear e1 e2 hl1 hl2 hl3 hl4 hq1 hq2 hq3 hq4 hP hlt b1 b2 b3 b4 bd hyq hyr hzq hzr hm1 hm2
  rw [E1.out, E2.out]
  clear E1 E2
  go_enter Tryd.func17, Tryd.ntmps17
  go_wp2_with fail
  rw [← HM1.out]
  refine A1.out.mono ?_
  rintro e w' ⟨rfl, rfl⟩
  go_wp2_with fail
  rw [← HM2.out]
  refine A2.out.mono ?_
  rintro e w' ⟨rfl, rfl⟩
  go_wp2_with fail
  refine A3.out.mono ?_
  rintro e w' ⟨rfl, rfl⟩
  go_wp2_with fail
  refine A4.out.mono ?_
  rintro e w' ⟨rfl, rfl⟩
  go_wp2
  go_ret2
  exact ⟨rfl, rfl⟩
end Go.Proofs.YthdpbmpdiaencaaDoor
