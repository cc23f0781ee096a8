/- Plain laws of decimal digits: the digits of a number, the number of digits, limbs divided by a word. -/
import Derived.Test.YthdpbmpdiaencaaDoorLimbMath
namespace Go.Proofs.YthdpbmpdiaencaaDoor

/-- the decimal digits of a number, the last one first; at least one -/
def dr (n : Nat) : List Nat := if n < 10 then [n] else n % 10 :: dr (n / 10)
termination_by n
decreasing_by omega
theorem dr_small {n : Nat} (h : n < 10) : dr n = [n] := by rw [dr, if_pos h]
theorem dr_big {n : Nat} (h : 10 ≤ n) : dr n = n % 10 :: dr (n / 10) := by rw [dr, if_neg (by omega)]
theorem dr_lt : ∀ n : Nat, ∀ d ∈ dr n, d < 10 := by
  intro n
  induction n using Nat.strongRecOn with
  | _ n ih =>
    intro d hd
    by_cases h : n < 10
    · rw [dr_small h, List.mem_singleton] at hd
      omega
    · rw [dr_big (by omega), List.mem_cons] at hd
      rcases hd with rfl | hd
      · omega
      · exact ih (n / 10) (by omega) d hd
/-- the number that digits stand for, the first one first -/
def dv (x : Nat) (l : List Nat) : Nat := l.foldl (fun x d => 10 * x + d) x
theorem dv_snoc (x : Nat) (l : List Nat) (d : Nat) : dv x (l ++ [d]) = 10 * dv x l + d := by simp [dv]
theorem dv_dr : ∀ n : Nat, dv 0 (dr n).reverse = n := by
  intro n
  induction n using Nat.strongRecOn with
  | _ n ih =>
    by_cases h : n < 10
    · rw [dr_small h]; simp [dv]
    · rw [dr_big (by omega), List.reverse_cons, dv_snoc, ih (n / 10) (by omega)]
      omega
theorem dr_len : ∀ {k n : Nat}, n < 10 ^ (k + 1) → (dr n).length ≤ k + 1
  | 0, n, h => by rw [dr_small (by simpa using h)]; simp
  | k + 1, n, h => by
    by_cases h1 : n < 10
    · rw [dr_small h1]; simp
    · rw [dr_big (by omega), List.length_cons]
      have := dr_len (k := k) (n := n / 10) (by rw [Nat.div_lt_iff_lt_mul (by omega), ← Nat.pow_succ]; exact h)
      omega
theorem dr_ne (n : Nat) : dr n ≠ [] := by
  rw [dr]; split <;> simp
/-- the same, the digits given in reverse -/
def dvR : List Nat → Nat
  | [] => 0
  | d :: r => 10 * dvR r + d
theorem dv_rev : ∀ r : List Nat, dv 0 r.reverse = dvR r
  | [] => rfl
  | d :: r => by rw [List.reverse_cons, dv_snoc, dv_rev r, dvR]
theorem dv_dvR (l : List Nat) : dv 0 l = dvR l.reverse := by rw [← dv_rev, List.reverse_reverse]
theorem dvR_lt : ∀ (r : List Nat), (∀ d ∈ r, d < 10) → dvR r < 10 ^ r.length
  | [], _ => by simp [dvR]
  | d :: r, h => by
    have h1 := dvR_lt r fun x hx => h x (by simp [hx])
    have h2 := h d (by simp)
    rw [dvR, List.length_cons, Nat.pow_succ]
    omega
/-- digits without a leading zero, or the digit zero, are the digits of their number -/
theorem dr_dvR : ∀ (r : List Nat), r ≠ [] → (∀ d ∈ r, d < 10) → (r.getLast? = some 0 → r = [0]) → dr (dvR r) = r
  | [], h, _, _ => absurd rfl h
  | [d], _, h, _ => by
    have := h d (by simp)
    rw [show dvR [d] = d by simp [dvR], dr_small this]
  | d :: e :: r, _, h, hz => by
    have hd := h d (by simp)
    have hne : (e :: r).getLast? ≠ some 0 := fun hl => by
      have h1 : (d :: e :: r).getLast? = some 0 := by rw [List.getLast?_cons_cons]; exact hl
      have := hz h1
      simp at this
    have hi := dr_dvR (e :: r) (by simp) (fun x hx => h x (List.mem_cons_of_mem _ hx)) (fun hl => absurd hl hne)
    have hp : dvR (e :: r) ≠ 0 := fun h0 => by
      rw [h0, dr_small (by omega)] at hi
      rw [← hi] at hne
      exact hne rfl
    rw [dvR, dr_big (by omega), show (10 * dvR (e :: r) + d) % 10 = d by omega, show (10 * dvR (e :: r) + d) / 10 = dvR (e :: r) by omega, hi]
theorem dr_last (n : Nat) : (dr n).getLast? = some 0 → n = 0 := by
  induction n using Nat.strongRecOn with
  | _ n ih =>
    intro h
    by_cases h1 : n < 10
    · rw [dr_small h1] at h; simpa using h
    · rw [dr_big (by omega)] at h
      have hl : (dr (n / 10)).getLast? = some 0 := by
        cases hh : dr (n / 10) with
        | nil => exact absurd hh (dr_ne _)
        | cons e r => rw [hh] at h; rw [List.getLast?_cons_cons] at h; exact h
      have := ih (n / 10) (by omega) hl
      omega
/-- a number's decimal text -/
def fmtI (v : Int) : List Int := (if v < 0 then [45] else []) ++ (dr v.natAbs).reverse.map fun (d : Nat) => (48 : Int) + (d : Int)

/-- limbs of a number divided by a word, from the top -/
theorem lim_div {v d : Int} (hd : 0 < d) (j : Nat) (hl : d ≤ 18446744073709551616) :
    lim (v / d) j = (v / (18446744073709551616 : Int) ^ (j + 1) % d * 18446744073709551616 + lim v j) / d ∧ v / (18446744073709551616 : Int) ^ j % d = (v / (18446744073709551616 : Int) ^ (j + 1) % d * 18446744073709551616 + lim v j) % d := by
  have hW : (0 : Int) < 18446744073709551616 := by decide
  unfold lim
  have e1 : v / d / (18446744073709551616 : Int) ^ j = v / (18446744073709551616 : Int) ^ j / d := by rw [Int.ediv_ediv_of_nonneg (Int.le_of_lt hd), Int.ediv_ediv_of_nonneg (Int.le_of_lt (W64_pos j)), Int.mul_comm]
  have e2 : v / (18446744073709551616 : Int) ^ (j + 1) = v / (18446744073709551616 : Int) ^ j / 18446744073709551616 := by rw [Int.pow_succ, Int.ediv_ediv_of_nonneg (Int.le_of_lt (W64_pos j))]
  rw [e1, e2]
  generalize v / (18446744073709551616 : Int) ^ j = x
  have hx := Int.emod_add_mul_ediv x 18446744073709551616
  have hl0 := Int.emod_nonneg x (show (18446744073709551616 : Int) ≠ 0 by decide)
  have hl1 := Int.emod_lt_of_pos x hW
  generalize x % 18446744073709551616 = l at *
  generalize x / 18446744073709551616 = H at *
  have hH := Int.emod_add_mul_ediv H d
  have hr0 := Int.emod_nonneg H (show d ≠ 0 by omega)
  have hr1 := Int.emod_lt_of_pos H hd
  generalize H % d = r at *
  generalize H / d = t at *
  have ex : x = (r * 18446744073709551616 + l) + d * (t * 18446744073709551616) := by
    rw [← hx, ← hH]
    grind
  constructor
  · rw [ex, Int.add_mul_ediv_left _ _ (by omega), Int.add_mul_emod_self_right]
    refine Int.emod_eq_of_lt (Int.ediv_nonneg ?_ (Int.le_of_lt hd)) (Int.ediv_lt_of_lt_mul hd ?_)
    · have := Int.mul_nonneg hr0 (Int.le_of_lt hW)
      omega
    · have := Int.mul_le_mul_of_nonneg_right (show r + 1 ≤ d by omega) (Int.le_of_lt hW)
      rw [Int.mul_comm 18446744073709551616 d]
      omega
  · rw [ex, Int.add_mul_emod_self_left]
end Go.Proofs.YthdpbmpdiaencaaDoor
