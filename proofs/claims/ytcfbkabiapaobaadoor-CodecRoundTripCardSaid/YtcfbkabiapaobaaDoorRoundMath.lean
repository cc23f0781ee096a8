/- Plain laws of requests: Decode's data of Encode's bytes, and Encode's bytes of what was decoded. -/
import Derived.Test.YtcfbkabiapaobaaDoorDecFacts
import Derived.Test.YtcfbkabiapaobaaDoorHdLaws
import Derived.Test.YtcfbkabiapaobaaDoorU64
namespace Go.Proofs.YtcfbkabiapaobaaDoor
open Go.RowKit

/- words as bytes -/
theorem le_words (x : Int) (n : Nat) : le ((List.range n).map fun k => x / 256 ^ k % 256) = x % 256 ^ n := by
  induction n with
  | zero => simp [le]
  | succ n ih =>
    rw [List.range_succ, List.map_append, List.map_singleton, le_snoc, ih, List.length_map, List.length_range]
    have h := Int.emod_add_mul_ediv (x / 256 ^ n) 256
    have h1 := Int.emod_add_mul_ediv x (256 ^ n)
    have h2 := Int.emod_add_mul_ediv x (256 ^ (n + 1))
    rw [div256_succ] at h
    have e : (256 : Int) ^ (n + 1) = 256 ^ n * 256 := Int.pow_succ 256 n
    rw [e] at h2
    have e2 : (256 : Int) ^ n * (256 * (x / 256 ^ (n + 1))) = 256 ^ n * 256 * (x / (256 ^ n * 256)) := by rw [← Int.mul_assoc, e]
    have h3 : (256 : Int) ^ n * (x / 256 ^ n % 256 + 256 * (x / 256 ^ (n + 1))) = 256 ^ n * (x / 256 ^ n) := by rw [h]
    rw [Int.mul_add, e2] at h3
    rw [e, Int.mul_comm (x / 256 ^ n % 256)]
    omega
theorem le_word8 {x : Int} (h : U64 x) : le (word8 x) = x := by
  unfold word8
  rw [le_words]
  exact Int.emod_eq_of_lt h.1 h.2
theorem word8_by (x : Int) : By (word8 x) := by
  intro y hy
  obtain ⟨k, _, rfl⟩ := List.mem_map.1 hy
  omega
theorem le_inj : ∀ (a b : List Int), By a → By b → a.length = b.length → le a = le b → a = b
  | [], [], _, _, _, _ => rfl
  | [], _ :: _, _, _, h, _ => by simp at h
  | _ :: _, [], _, _, h, _ => by simp at h
  | x :: a, y :: b, ha, hb, hl, he => by
    simp only [le] at he
    have h1 := ha.head
    have h2 := hb.head
    have hxy : x = y := by omega
    have : le a = le b := by omega
    rw [hxy, le_inj a b ha.tail hb.tail (by simpa using hl) this]
theorem le_u64 {l : List Int} (hl : l.length = 8) (hb : By l) : U64 (le l) := by
  have := le_bd l hb
  rw [hl] at this
  exact ⟨this.1, by have := this.2; simpa using this⟩
theorem word8_le {l : List Int} (hl : l.length = 8) (hb : By l) : word8 (le l) = l :=
  le_inj _ _ (word8_by _) hb (by rw [word8_length, hl]) (le_word8 (le_u64 hl hb))
theorem u64_i64 {x : Int} (h : U64 x) : IntKind.u64.wrap (i64w x) = x := by
  unfold i64w wrap64
  rw [IntKind.wrap_u64]
  unfold U64 at h
  omega
theorem i64_u64 {x : Int} (h0 : -9223372036854775808 ≤ x) (h1 : x < 9223372036854775808) : i64w (IntKind.u64.wrap x) = x := by
  unfold i64w wrap64
  rw [IntKind.wrap_u64]
  omega

/- points and queries as bytes -/
theorem eight_dropR (bs : List Int) (a k : Nat) : eight bs (a + k) = eight (bs.drop a) k := by unfold eight; rw [List.drop_drop]
theorem eight_left {l r : List Int} (h : l.length = 8) : eight (l ++ r) 0 = l := by
  unfold eight; rw [List.drop_zero, List.take_left' h]
theorem eight_right {l r : List Int} {k : Nat} (h : l.length = k) (j : Nat) : eight (l ++ r) (k + j) = eight r j := by
  rw [eight_dropR, List.drop_left' h]
theorem ptsOf_succ (bs : List Int) (n : Nat) : ptsOf bs (n + 1) = ptAt bs 0 :: ptsOf (bs.drop 16) n := by
  unfold ptsOf
  rw [List.range_succ_eq_map, List.map_cons, List.map_map]
  congr 1
  refine List.map_congr_left fun i _ => ?_
  show ptAt bs (i + 1) = ptAt (bs.drop 16) i
  unfold ptAt
  rw [← eight_dropR, ← eight_dropR, show 16 * (i + 1) = 16 + 16 * i by omega, show 16 + 16 * i + 8 = 16 + (16 * i + 8) by omega]
theorem qusOf_succ' (bs : List Int) (n : Nat) : qusOf bs (n + 1) = quAt bs 0 :: qusOf (bs.drop 24) n := by
  unfold qusOf
  rw [List.range_succ_eq_map, List.map_cons, List.map_map]
  congr 1
  refine List.map_congr_left fun i _ => ?_
  show quAt bs (i + 1) = quAt (bs.drop 24) i
  unfold quAt
  rw [← eight_dropR, ← eight_dropR, ← eight_dropR, show 24 * (i + 1) = 24 + 24 * i by omega, show 24 + 24 * i + 8 = 24 + (24 * i + 8) by omega, show 24 + 24 * i + 16 = 24 + (24 * i + 16) by omega]
def P64 (p : Int × Int) : Prop := (-9223372036854775808 ≤ p.1 ∧ p.1 ≤ 9223372036854775807) ∧ (-9223372036854775808 ≤ p.2 ∧ p.2 ≤ 9223372036854775807)
theorem ptAt_pt16 {p : Int × Int} (h : P64 p) (X : List Int) : ptAt (pt16 p ++ X) 0 = p := by
  unfold ptAt pt16
  rw [List.append_assoc, Nat.mul_zero, eight_left (word8_length _), show 0 + 8 = 8 + 0 by omega, eight_right (word8_length _), eight_left (word8_length _)]
  unfold u64w
  rw [le_word8 (u64w_u64 _), le_word8 (u64w_u64 _), i64_u64 h.1.1 (by have := h.1.2; omega), i64_u64 h.2.1 (by have := h.2.2; omega)]
theorem quAt_q24 {q : (Int × Int) × Int} (h : P64 q.1) (hu : U64 q.2) (X : List Int) : quAt (q24 q ++ X) 0 = q := by
  have h1 := ptAt_pt16 h (word8 q.2 ++ X)
  unfold ptAt at h1
  unfold quAt q24
  rw [List.append_assoc, Nat.mul_zero, show 0 + 16 = 16 + 0 by omega, eight_right (pt16_length _), eight_left (word8_length _), le_word8 hu]
  rw [Nat.mul_zero] at h1
  rw [h1]
theorem ptsOf_flat : ∀ (ps : List (Int × Int)) (X : List Int), (∀ p ∈ ps, P64 p) → ptsOf (ps.flatMap pt16 ++ X) ps.length = ps
  | [], _, _ => rfl
  | p :: ps, X, h => by
    rw [List.flatMap_cons, List.append_assoc, List.length_cons, ptsOf_succ, ptAt_pt16 (h p (by simp)), List.drop_left' (pt16_length p), ptsOf_flat ps X fun q hq => h q (by simp [hq])]
theorem qusOf_flat : ∀ (qs : List ((Int × Int) × Int)) (X : List Int), (∀ q ∈ qs, P64 q.1 ∧ U64 q.2) → qusOf (qs.flatMap q24 ++ X) qs.length = qs
  | [], _, _ => rfl
  | q :: qs, X, h => by
    rw [List.flatMap_cons, List.append_assoc, List.length_cons, qusOf_succ', quAt_q24 (h q (by simp)).1 (h q (by simp)).2, List.drop_left' (q24_length q), qusOf_flat qs X fun r hr => h r (by simp [hr])]
theorem take_app {l X : List Int} {k n : Nat} (h : l.length = k) : (l ++ X).take (k + n) = l ++ X.take n := by
  subst h; exact List.take_length_add_append _
theorem pt16_at {bs : List Int} (h : 16 ≤ bs.length) (hb : By bs) : pt16 (ptAt bs 0) = bs.take 16 := by
  unfold pt16 ptAt u64w
  have l0 : (eight bs (16 * 0)).length = 8 := eight_len (by omega)
  have l1 : (eight bs (16 * 0 + 8)).length = 8 := eight_len (by omega)
  rw [u64_i64 (le_u64 l0 (eight_by hb _)), u64_i64 (le_u64 l1 (eight_by hb _)), word8_le l0 (eight_by hb _), word8_le l1 (eight_by hb _)]
  have := pt_split bs 0
  rw [Nat.mul_zero, List.drop_zero] at this
  conv => rhs; rw [this, ← List.append_assoc]
  rw [Nat.mul_zero] at l0 l1 ⊢
  rw [List.take_left' (by rw [List.length_append, l0, l1])]
theorem q24_at {bs : List Int} (h : 24 ≤ bs.length) (hb : By bs) : q24 (quAt bs 0) = bs.take 24 := by
  have h1 := pt16_at (by omega) hb
  have l2 : (eight bs (24 * 0 + 16)).length = 8 := eight_len (by omega)
  have hp : (quAt bs 0).1 = ptAt bs 0 := rfl
  unfold q24
  rw [hp, h1]
  unfold quAt
  rw [word8_le l2 (eight_by hb _)]
  unfold eight
  rw [Nat.mul_zero, show 0 + 16 = 16 by omega, show 24 = 16 + 8 by omega, List.take_add]
theorem flat_ptsOf : ∀ (n : Nat) (bs : List Int), 16 * n ≤ bs.length → By bs → (ptsOf bs n).flatMap pt16 = bs.take (16 * n)
  | 0, bs, _, _ => by simp [ptsOf]
  | n + 1, bs, h, hb => by
    rw [ptsOf_succ, List.flatMap_cons, pt16_at (by omega) hb, flat_ptsOf n (bs.drop 16) (by rw [List.length_drop]; omega) (hb.drop _), show 16 * (n + 1) = 16 + 16 * n by omega, List.take_add]
theorem flat_qusOf : ∀ (n : Nat) (bs : List Int), 24 * n ≤ bs.length → By bs → (qusOf bs n).flatMap q24 = bs.take (24 * n)
  | 0, bs, _, _ => by simp [qusOf]
  | n + 1, bs, h, hb => by
    rw [qusOf_succ', List.flatMap_cons, q24_at (by omega) hb, flat_qusOf n (bs.drop 24) (by rw [List.length_drop]; omega) (hb.drop _), show 24 * (n + 1) = 24 + 24 * n by omega, List.take_add]
end Go.Proofs.YtcfbkabiapaobaaDoor
