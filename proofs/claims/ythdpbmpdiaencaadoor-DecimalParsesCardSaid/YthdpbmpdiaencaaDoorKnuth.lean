/- Plain laws of division: two words by one (by halves of words), and limbs by a word. -/
import Derived.Test.YthdpbmpdiaencaaDoorLimbMath
namespace Go.Proofs.YthdpbmpdiaencaaDoor

/-- an estimate q of the quotient of u and a half word u1 by the two halves y1, y0; r is what is left of u -/
structure KI (u y1 y0 u1 q r : Nat) : Prop where
  hA : q * y1 + r = u
  hN : u * 4294967296 + u1 < 4294967296 * (q * y1) + q * y0 + 4294967296 * y1 + y0
/-- the quotient is found -/
structure KD (u y1 y0 u1 q : Nat) : Prop where
  lo : 4294967296 * (q * y1) + q * y0 ≤ u * 4294967296 + u1
  hi : u * 4294967296 + u1 < 4294967296 * (q * y1) + q * y0 + 4294967296 * y1 + y0
  lt : q < 4294967296
theorem KI.init {u y1 : Nat} (y0 : Nat) {u1 : Nat} (h1 : 0 < y1) (hu1 : u1 < 4294967296) : KI u y1 y0 u1 (u / y1) (u - u / y1 * y1) := by
  have h := Nat.div_mul_le_self u y1
  have h2 := Nat.lt_div_mul_add h1 (a := u)
  generalize u / y1 = q at *
  constructor
  · omega
  · generalize q * y1 = A at *
    generalize q * y0 = B at *
    omega
theorem KI.small {u y1 y0 u1 q r : Nat} (h : KI u y1 y0 u1 q r) (hu : u < y1 * 4294967296 + y0) (hq : 4294967296 ≤ q) : r < y0 := by
  have h1 := h.hA
  have h2 := Nat.mul_le_mul_right y1 hq
  generalize q * y1 = A at *
  omega
theorem KI.qle {u y1 y0 u1 q r : Nat} (h : KI u y1 y0 u1 q r) (hu : u < y1 * 4294967296 + y0) (h1 : 2147483648 ≤ y1) (h0 : y0 < 4294967296) : q ≤ 4294967297 := by
  by_cases hq : q ≤ 4294967297
  · exact hq
  · have h2 := h.hA
    have h3 := Nat.mul_le_mul_right y1 (show 4294967298 ≤ q by omega)
    generalize q * y1 = A at *
    omega
theorem KI.step {u y1 y0 u1 q r : Nat} (h : KI u y1 y0 u1 q r) (hc : 4294967296 ≤ q ∨ 4294967296 * r + u1 < q * y0) (hu : u < y1 * 4294967296 + y0) (hu1 : u1 < 4294967296) :
    1 ≤ q ∧ KI u y1 y0 u1 (q - 1) (r + y1) := by
  have hq : 1 ≤ q := by
    rcases Nat.eq_zero_or_pos q with rfl | hp
    · rw [Nat.zero_mul] at hc
      omega
    · exact hp
  refine ⟨hq, ?_⟩
  obtain ⟨p, rfl⟩ : ∃ p, q = p + 1 := ⟨q - 1, by omega⟩
  obtain ⟨hA, hN⟩ := h
  have e1 : (p + 1) * y1 = p * y1 + y1 := Nat.succ_mul p y1
  have e0 : (p + 1) * y0 = p * y0 + y0 := Nat.succ_mul p y0
  rw [e1] at hA hN
  rw [e0] at hN hc
  rw [Nat.add_sub_cancel]
  constructor
  · omega
  · rcases hc with hc | hc
    · have h2 := Nat.mul_le_mul_right y1 hc
      have h3 := Nat.mul_le_mul_right y0 hc
      rw [e1] at h2
      rw [e0] at h3
      generalize p * y1 = A at *
      generalize p * y0 = B at *
      omega
    · generalize p * y1 = A at *
      generalize p * y0 = B at *
      omega
theorem KI.done {u y1 y0 u1 q r : Nat} (h : KI u y1 y0 u1 q r) (hq : q < 4294967296) (hc : q * y0 ≤ 4294967296 * r + u1) : KD u y1 y0 u1 q := by
  obtain ⟨hA, hN⟩ := h
  refine ⟨?_, hN, hq⟩
  generalize q * y1 = A at *
  generalize q * y0 = B at *
  omega
theorem KI.brk {u y1 y0 u1 q r : Nat} (h : KI u y1 y0 u1 q r) (hu : u < y1 * 4294967296 + y0) (h0 : y0 < 4294967296) (hr : 4294967296 ≤ r) : KD u y1 y0 u1 q := by
  have hq : q < 4294967296 := by
    by_cases hq : 4294967296 ≤ q
    · have := h.small hu hq
      omega
    · omega
  refine h.done hq ?_
  have := Nat.mul_le_mul_right y0 (Nat.le_of_lt hq)
  generalize q * y0 = B at *
  omega
/-- what is left by a quotient -/
def KD.left (u y1 y0 u1 q : Nat) : Nat := u * 4294967296 + u1 - q * (y1 * 4294967296 + y0)
theorem KD.exp (q y1 y0 : Nat) : q * (y1 * 4294967296 + y0) = 4294967296 * (q * y1) + q * y0 := by
  rw [Nat.mul_add, ← Nat.mul_assoc, Nat.mul_comm _ 4294967296]
theorem KD.eq {u y1 y0 u1 q : Nat} (h : KD u y1 y0 u1 q) : u * 4294967296 + u1 = q * (y1 * 4294967296 + y0) + KD.left u y1 y0 u1 q ∧ KD.left u y1 y0 u1 q < y1 * 4294967296 + y0 := by
  obtain ⟨h1, h2, h3⟩ := h
  unfold KD.left
  rw [KD.exp]
  generalize q * y1 = A at *
  generalize q * y0 = B at *
  omega
theorem mod_unique {a b q r : Nat} (h : a = q * b + r) (hr : r < b) : q = a / b ∧ r = a % b := by
  subst h
  have hb : 0 < b := by omega
  constructor
  · rw [Nat.mul_comm, Nat.mul_add_div hb, Nat.div_eq_of_lt hr, Nat.add_zero]
  · rw [Nat.mul_comm, Nat.mul_add_mod, Nat.mod_eq_of_lt hr]
/-- the two digits of the quotient together -/
theorem knuth {M d s y1 y0 u u1 u0 q1 q0 : Nat} (hy : d * 2 ^ s = y1 * 4294967296 + y0) (hu : u * 18446744073709551616 + (u1 * 4294967296 + u0) = M * 2 ^ s)
    (h1 : KD u y1 y0 u1 q1) (h0 : KD (KD.left u y1 y0 u1 q1) y1 y0 u0 q0) :
    q1 * 4294967296 + q0 = M / d ∧ KD.left (KD.left u y1 y0 u1 q1) y1 y0 u0 q0 / 2 ^ s = M % d := by
  obtain ⟨e1, l1⟩ := h1.eq
  obtain ⟨e0, l0⟩ := h0.eq
  generalize KD.left u y1 y0 u1 q1 = v at *
  generalize KD.left v y1 y0 u0 q0 = R at *
  rw [← hy] at e1 e0 l1 l0
  have hp : 0 < 2 ^ s := Nat.two_pow_pos s
  generalize 2 ^ s = p at *
  have e : M * p = (q1 * 4294967296 + q0) * (d * p) + R := by
    have f1 := Nat.add_mul (q1 * 4294967296) q0 (d * p)
    have f2 := Nat.mul_right_comm q1 4294967296 (d * p)
    rw [f2] at f1
    clear f2
    generalize (q1 * 4294967296 + q0) * (d * p) = C at *
    generalize M * p = N at *
    generalize q1 * (d * p) = A at *
    generalize q0 * (d * p) = B at *
    omega
  obtain ⟨g1, g2⟩ := mod_unique e l0
  rw [Nat.mul_div_mul_right _ _ hp] at g1
  rw [Nat.mul_mod_mul_right] at g2
  exact ⟨g1, by rw [g2, Nat.mul_div_cancel _ hp]⟩
/-- the two words moved by s places -/
theorem shl_two {hi lo s : Nat} (hs : s ≤ 64) : (hi * 2 ^ s + lo / 2 ^ (64 - s)) * 18446744073709551616 + lo * 2 ^ s % 18446744073709551616 = (hi * 18446744073709551616 + lo) * 2 ^ s := by
  have e : (18446744073709551616 : Nat) = 2 ^ (64 - s) * 2 ^ s := by rw [← Nat.pow_add, Nat.sub_add_cancel hs]
  have e2 : lo * 2 ^ s % 18446744073709551616 = lo % 2 ^ (64 - s) * 2 ^ s := by rw [e, Nat.mul_mod_mul_right]
  have h := Nat.div_add_mod lo (2 ^ (64 - s))
  rw [e2, Nat.add_mul, Nat.add_mul, Nat.mul_right_comm]
  have e3 : lo / 2 ^ (64 - s) * 18446744073709551616 = 2 ^ (64 - s) * (lo / 2 ^ (64 - s)) * 2 ^ s := by rw [e, Nat.mul_comm (2 ^ (64 - s)) (lo / _), Nat.mul_assoc]
  rw [e3, Nat.add_assoc, ← Nat.add_mul, h]
