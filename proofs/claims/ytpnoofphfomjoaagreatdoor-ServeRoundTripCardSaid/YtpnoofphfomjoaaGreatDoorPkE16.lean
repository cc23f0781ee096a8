/- Mask -/
import Derived.Laws.BitsAllLaws
import Derived.Deep.QuietTactic
import Derived.BigQuiet
import Derived.Test.YtpnoofphfomjoaaGreatDoorPkE32
namespace Go.Proofs.YtpnoofphfomjoaaGreatDoor
open Go.RowKit
/-- the mask of a condition -/
def msk (c : Bool) : Int := bif c then 18446744073709551615 else 0
theorem msk_bd (c : Bool) : 0 ≤ msk c ∧ msk c < 18446744073709551616 := by cases c <;> decide
theorem not_nat (y : Nat) (h : y < 18446744073709551616) : 18446744073709551615 ^^^ y = 18446744073709551615 - y := by
  have h1 := congrArg BitVec.toNat (BitVec.allOnes_xor (x := BitVec.ofNat 64 y))
  rw [BitVec.toNat_xor, BitVec.toNat_not, BitVec.toNat_allOnes, BitVec.toNat_ofNat, Nat.mod_eq_of_lt (show y < 2 ^ 64 by simpa using h)] at h1
  exact h1
theorem bnot (y : Int) (h0 : 0 ≤ y) (h1 : y < 18446744073709551616) : bits BinOp.xor IntKind.u64 IntKind.u64.max y = 18446744073709551615 - y := by
  have e : IntKind.u64.max = 18446744073709551615 := rfl
  rw [e, u64_xor _ y (by omega) (by omega) h0 h1]
  have := not_nat y.toNat (by omega)
  rw [show (18446744073709551615 : Int).toNat = 18446744073709551615 from rfl, this]
  omega
theorem band1 (x : Int) (h0 : 0 ≤ x) (h1 : x < 18446744073709551616) : bits BinOp.and IntKind.u64 x 1 = x % 2 := by
  rw [u64_and x 1 h0 h1 (by omega) (by omega), show (1 : Int).toNat = 1 from rfl, Nat.and_one_is_mod]
  omega
theorem of_bits (x : Int) (h0 : 0 ≤ x) (h1 : x < 18446744073709551616) : IntKind.u64.wrap (-bits BinOp.and IntKind.u64 x 1) = msk (decide (x % 2 = 1)) := by
  rw [band1 x h0 h1, IntKind.wrap_u64]
  have : x % 2 = 0 ∨ x % 2 = 1 := by omega
  rcases this with h | h <;> rw [h] <;> decide
theorem zero_bits (x : Int) (h0 : 0 ≤ x) (h1 : x < 18446744073709551616) : bits BinOp.xor IntKind.u64 IntKind.u64.max (bits BinOp.or IntKind.u64 x (IntKind.u64.wrap (-x))) / 9223372036854775808 = if x = 0 then 1 else 0 := by
  rw [IntKind.wrap_u64]
  by_cases hx : x = 0
  · subst hx; rw [if_pos rfl]; decide +kernel
  · rw [if_neg hx, show (-x) % 18446744073709551616 = 18446744073709551616 - x by omega, u64_or x _ h0 h1 (by omega) (by omega)]
    have hl : x.toNat ≤ x.toNat ||| (18446744073709551616 - x).toNat := Nat.left_le_or
    have hr : (18446744073709551616 - x).toNat ≤ x.toNat ||| (18446744073709551616 - x).toNat := Nat.right_le_or
    have hb : x.toNat ||| (18446744073709551616 - x).toNat < 2 ^ 64 := Nat.or_lt_two_pow (by omega) (by omega)
    generalize x.toNat ||| (18446744073709551616 - x).toNat = y at hl hr hb ⊢
    rw [bnot y (by omega) (by omega)]
    omega
theorem select_bits (c : Bool) (a b : Int) (h0 : 0 ≤ a) (h1 : a < 18446744073709551616) (h2 : 0 ≤ b) (h3 : b < 18446744073709551616) : bits BinOp.xor IntKind.u64 b (bits BinOp.and IntKind.u64 (msk c) (bits BinOp.xor IntKind.u64 a b)) = bif c then a else b := by
  rw [u64_xor a b h0 h1 h2 h3]
  have hx : a.toNat ^^^ b.toNat < 2 ^ 64 := Nat.xor_lt_two_pow (by omega) (by omega)
  obtain ⟨A, rfl⟩ := Int.eq_ofNat_of_zero_le h0
  obtain ⟨B, rfl⟩ := Int.eq_ofNat_of_zero_le h2
  simp only [Int.toNat_natCast] at hx ⊢
  cases c
  · rw [u64_and _ _ (msk_bd _).1 (msk_bd _).2 (by omega) (by omega)]
    show bits _ _ _ (((0 : Nat) &&& _ : Nat) : Int) = (B : Int)
    rw [Nat.zero_and, u64_xor _ _ (by omega) (by omega) (by omega) (by omega)]
    simp
  · rw [u64_and _ _ (msk_bd _).1 (msk_bd _).2 (by omega) (by omega)]
    have e : (msk true).toNat &&& ((A ^^^ B : Nat) : Int).toNat = A ^^^ B := by
      rw [Int.toNat_natCast, show (msk true).toNat = 2 ^ 64 - 1 from rfl, Nat.and_comm, Nat.and_two_pow_sub_one_eq_mod, Nat.mod_eq_of_lt hx]
    rw [e, u64_xor _ _ (by omega) (by omega) (by omega) (by omega), Int.toNat_natCast, Int.toNat_natCast, Nat.xor_comm A B, ← Nat.xor_assoc, Nat.xor_self, Nat.zero_xor]
    rfl
set_option maxRecDepth 100000 in
theorem of_any (x : Int) (h0 : 0 ≤ x) (h1 : x < 18446744073709551616) (w : World) : Calls Tryz.prog 153 #[.int .u64 x] w fun e w' => e = .returned (.int .u64 (msk (decide (x % 2 = 1)))) ∧ w = w' := by
  have h := of_bits x h0 h1
  go_enter Tryz.func153, Tryz.ntmps153
  go_wp2
  go_ret
  exact ⟨by simp, rfl⟩
theorem msk_odd (c : Bool) : decide (msk c % 2 = 1) = c := by cases c <;> decide
theorem of_msk (c : Bool) (w : World) : Calls Tryz.prog 153 #[.int .u64 (msk c)] w fun e w' => e = .returned (.int .u64 (msk c)) ∧ w = w' := by
  have h := of_any (msk c) (msk_bd c).1 (msk_bd c).2 w
  rw [msk_odd] at h
  exact h
set_option maxRecDepth 100000 in
theorem zero_any (x : Int) (h0 : 0 ≤ x) (h1 : x < 18446744073709551616) (w : World) : Calls Tryz.prog 182 #[.int .u64 x] w fun e w' => e = .returned (.int .u64 (msk (decide (x = 0)))) ∧ w = w' := by
  have h := zero_bits x h0 h1
  have HO := of_any (if x = 0 then 1 else 0) (by split <;> omega) (by split <;> omega) w
  have e : decide ((if x = 0 then (1 : Int) else 0) % 2 = 1) = decide (x = 0) := by by_cases hx : x = 0 <;> simp [hx]
  rw [e] at HO
  obtain ⟨z, hz⟩ : ∃ z, z = (if x = 0 then (1 : Int) else 0) := ⟨_, rfl⟩
  rw [← hz] at h HO
  have H := hide h
  clear hz e h
  go_enter Tryz.func182, Tryz.ntmps182
  go_wp2_with fail
  rw [H.out]
  refine HO.mono ?_
  rintro e w' ⟨rfl, rfl⟩
  go_wp2
  go_ret
  exact ⟨rfl, rfl⟩
set_option maxRecDepth 100000 in
theorem negative_any (x : Int) (h0 : -9223372036854775808 ≤ x) (h1 : x < 9223372036854775808) (w : World) : Calls Tryz.prog 154 #[.int .i64 x] w fun e w' => e = .returned (.int .u64 (msk (decide (x < 0)))) ∧ w = w' := by
  have h : IntKind.u64.wrap (x / 9223372036854775808) = msk (decide (x < 0)) := by
    rw [IntKind.wrap_u64]
    by_cases hx : x < 0
    · rw [show x / 9223372036854775808 = -1 by omega, decide_eq_true hx]; decide
    · rw [show x / 9223372036854775808 = 0 by omega, decide_eq_false hx]; decide
  go_enter Tryz.func154, Tryz.ntmps154
  go_wp2
  go_ret
  exact ⟨by simp, rfl⟩
set_option maxRecDepth 100000 in
theorem fill_any (x : Int) (h0 : 0 ≤ x) (h1 : x < 18446744073709551616) (w : World) : Calls Tryz.prog 181 #[.int .u64 x] w fun e w' => e = .returned (.int .u64 (msk (decide (9223372036854775808 ≤ x)))) ∧ w = w' := by
  have HO := of_any (x / 9223372036854775808) (by omega) (by omega) w
  have e : decide (x / 9223372036854775808 % 2 = 1) = decide (9223372036854775808 ≤ x) := by
    by_cases hx : 9223372036854775808 ≤ x
    · rw [decide_eq_true hx, decide_eq_true (by omega)]
    · rw [decide_eq_false hx, decide_eq_false (by omega)]
  rw [e] at HO
  go_enter Tryz.func181, Tryz.ntmps181
  go_wp2_with fail
  refine HO.mono ?_
  rintro e w' ⟨rfl, rfl⟩
  go_wp2
  go_ret
  exact ⟨rfl, rfl⟩
set_option maxRecDepth 100000 in
theorem select_any (c : Bool) (a b : Int) (h0 : 0 ≤ a) (h1 : a < 18446744073709551616) (h2 : 0 ≤ b) (h3 : b < 18446744073709551616) (w : World) : Calls Tryz.prog 192 #[.int .u64 (msk c), .int .u64 a, .int .u64 b] w fun e w' => e = .returned (.int .u64 (bif c then a else b)) ∧ w = w' := by
  have h := select_bits c a b h0 h1 h2 h3
  go_enter Tryz.func192, Tryz.ntmps192
  go_wp2
  go_ret
  exact ⟨by simp, rfl⟩
/-- the table mask.words -/
def MWords (w : World) : Prop := w.cell? ⟨1, 0, none⟩ = some (.int .u64 9223372036854775808) ∧ w.cell? ⟨1, 1, none⟩ = some (.int .u64 18446744073709551615)
/-- the sign of masks -/
def sgnM (n z : Bool) : Int := bif n then -1 else bif z then 0 else 1
set_option maxRecDepth 100000 in
set_option maxHeartbeats 1000000 in
theorem msign_any (n z : Bool) (w : World) (hw : MWords w) : Calls Tryz.prog 180 #[.int .u64 (msk n), .int .u64 (msk z)] w fun e w' => e = .returned (.int .i64 (sgnM n z)) ∧ ∃ m, w' = w.drewN m := by
  obtain ⟨_, hw1⟩ := hw
  have h1 : bits BinOp.and IntKind.u64 (bits BinOp.xor IntKind.u64 IntKind.u64.max (msk z)) 1 = bif z then 0 else 1 := by
    rw [bnot _ (msk_bd z).1 (msk_bd z).2, band1 _ (by have := msk_bd z; omega) (by have := msk_bd z; omega)]
    cases z <;> decide
  have h2 : wrap64 (bif n then 18446744073709551615 else (bif z then 0 else 1)) = sgnM n z := by cases n <;> cases z <;> decide +kernel
  obtain ⟨y, hy⟩ : ∃ y : Int, y = bif z then 0 else 1 := ⟨_, rfl⟩
  have hyb : 0 ≤ y ∧ y ≤ 1 := by rw [hy]; cases z <;> decide
  rw [← hy] at h1 h2
  have HS : ∀ k, Calls Tryz.prog 192 #[.int .u64 (msk n), .int .u64 18446744073709551615, .int .u64 (bits BinOp.and IntKind.u64 (bits BinOp.xor IntKind.u64 (if IntKind.u64.signed = true then -1 else IntKind.u64.max) (msk z)) 1)] (w.drewN k) fun e w' => e = .returned (.int .u64 (bif n then 18446744073709551615 else y)) ∧ w.drewN k = w' := fun k => by
    have h1' : bits BinOp.and IntKind.u64 (bits BinOp.xor IntKind.u64 (if IntKind.u64.signed = true then -1 else IntKind.u64.max) (msk z)) 1 = y := h1
    rw [h1']
    exact select_any n _ y (by omega) (by omega) hyb.1 (by omega) _
  have HSH := hide HS
  have HY := hide hy
  have H2 := hide h2
  clear HS hy h1 h2 hyb
  go_enter Tryz.func180, Tryz.ntmps180
  go_wp2
  go_quiet ((first | (go_at_call 153; exact Calls.quiet_of_same ((of_msk _ _).mono fun _ _ ⟨a, b⟩ => ⟨a, b.symm⟩)) | (go_at_call 192; exact Calls.quiet_of_same ((HSH.out _).mono fun _ _ ⟨a, b⟩ => ⟨a, b.symm⟩))))
  go_wp2
  go_ret
  exact ⟨ret_int H2.out, _, rfl⟩
end Go.Proofs.YtpnoofphfomjoaaGreatDoor
