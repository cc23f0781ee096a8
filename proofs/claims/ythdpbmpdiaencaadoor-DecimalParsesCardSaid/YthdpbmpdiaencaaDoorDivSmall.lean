/- decimal.DivSmall: limbs divided by a word. -/
import Derived.Test.YthdpbmpdiaencaaDoorLimb3
import Derived.Test.YthdpbmpdiaencaaDoorDiv64
import Derived.Test.YthdpbmpdiaencaaDoorDecMath
import Derived.Test.YthdpbmpdiaencaaDoorNum2
namespace Go.Proofs.YthdpbmpdiaencaaDoor
open Go.RowKit

theorem div64_int (r x d : Int) (r0 : 0 ≤ r) (rd : r < d) (d1 : d < 18446744073709551616) (x0 : 0 ≤ x) (x1 : x < 18446744073709551616) (w : World) :
    Calls Tryd.prog 38 #[.int .u64 r, .int .u64 x, .int .u64 d] w fun e w' => e = .returned (.tuple #[.int .u64 ((r * 18446744073709551616 + x) / d), .int .u64 ((r * 18446744073709551616 + x) % d)]) ∧ Below w.heap.size w w' := by
  obtain ⟨r, rfl⟩ := Int.eq_ofNat_of_zero_le r0
  obtain ⟨x, rfl⟩ := Int.eq_ofNat_of_zero_le x0
  obtain ⟨d, rfl⟩ := Int.eq_ofNat_of_zero_le (show 0 ≤ d by omega)
  exact div64_any r x d (by omega) (by omega) (by omega) w
theorem div_cells_set {l : List Int} {k : Nat} {z : Int} (h : l[k]? = some z) :
    (uCs (List.replicate (k + 1) 0 ++ l.drop (k + 1))).toArray.setIfInBounds k (.int .u64 z) = (uCs (List.replicate k 0 ++ l.drop k)).toArray := by
  have e : l.drop k = z :: l.drop (k + 1) := by
    have hk : k < l.length := (List.getElem?_eq_some_iff.1 h).1
    rw [List.drop_eq_getElem_cons hk]
    congr 1
    exact (List.getElem?_eq_some_iff.1 h).2
  rw [set_uCs, e, List.replicate_succ', List.append_assoc]
  congr 2
  simp
theorem div_cells_get (l : List Int) (k : Nat) : (uCs (List.replicate (k + 1) 0 ++ l.drop (k + 1))).toArray[k]? = some (.int .u64 0) :=
  get_uCs (by rw [List.getElem?_append_left (by simp)]; simp)
set_option maxRecDepth 100000 in
set_option maxHeartbeats 2000000 in
theorem divSmall_any (n : Nat) (v d : Int) (hn : 1 ≤ n) (hn8 : n ≤ 8) (v0 : 0 ≤ v) (v1 : v < (18446744073709551616 : Int) ^ n) (d0 : 0 < d) (d1 : d < 18446744073709551616) (A : Option Addr) (c : Nat) (w : World) (hs : Sl w w.heap.size A (uCs (lims n v))) :
    Calls Tryd.prog 16 #[.slice A n c, .int .u64 d] w fun e w' => ∃ A', e = .returned (.tuple #[.slice A' n n, .int .u64 (v % d)]) ∧ Below w.heap.size w w' ∧ SlN w' (fun k => w.heap.size ≤ k) A' (uCs (lims n (v / d))) := by
  have hll := lims_length n v
  obtain ⟨b, off, rfl, hb, hcell⟩ := hs.u (by omega)
  obtain ⟨w1, hw1⟩ : ∃ w1, w1 = w.alloc (.cells (uCs (List.replicate n 0)).toArray 33) := ⟨_, rfl⟩
  have hb1 : Below w.heap.size w w1 := by rw [hw1]; exact bl_alloc (Below.refl _ _) _
  have G1 : Blk w1 w.heap.size 33 (uCs (List.replicate n 0)).toArray := by rw [hw1]; exact Blk.new _ _ _
  have hmk := make_u64 n (by omega)
  have HC := hide hcell
  have hr0 : v / (18446744073709551616 : Int) ^ n % d = 0 := by rw [Int.ediv_eq_zero_of_lt v0 v1]; simp
  have HR0 := hide hr0
  have HD0 := hide d0; have HD1 := hide d1
  clear hcell hs hr0 v0 v1
  have hdn : ¬ d = 0 := by omega
  have hm1 : (n : Int) - 1 < 9223372036854775808 := by omega
  clear d0 d1
  have n1 : ¬ (n : Int) < 1 := by omega
  have n8 : ¬ (8 : Int) < (n : Int) := by omega
  go_enter Tryd.func16, Tryd.ntmps16
  go_wp2
  rw [← hw1]
  have HW1 := hide hw1
  clear hw1 hmk
  obtain ⟨g, hg⟩ : ∃ g, g = w.heap.size := ⟨_, rfl⟩
  rw [← hg] at G1 ⊢
  have hge : w.heap.size ≤ g ∧ g ≤ w.heap.size := by omega
  clear hg
  go_loopw [7, 8] (fun u i wr => ∃ (k : Nat), k ≤ n ∧ i = .int .i64 ((k : Int) - 1) ∧ u = .int .u64 (v / (18446744073709551616 : Int) ^ k % d) ∧ Below w.heap.size w wr ∧ Blk wr g 33 (uCs (List.replicate k 0 ++ (lims n (v / d)).drop k)).toArray)
    (fun _ i _ => (intOf i + 1).toNat)
  case atStart =>
    refine ⟨n, by omega, ?_, by rw [HR0.out], hb1, ?_⟩
    · go_num
    · rw [List.drop_of_length_le (by rw [lims_length]; omega), List.append_nil]; exact G1
  case round =>
    obtain ⟨k, hk, rfl, rfl, hbr, hblk⟩ := hrel
    rcases Nat.eq_zero_or_pos k with rfl | hpos
    · have hsl : SlN wr (fun k => w.heap.size ≤ k) (some ⟨g, 0, none⟩) (uCs (lims n (v / d))) := .inr ⟨g, 0, rfl, hge.1, fun j u hu => by
        rw [Nat.zero_add]; exact hblk.cell (by simpa using hu)⟩
      have HSL := hide hsl
      have e0 : v / (18446744073709551616 : Int) ^ 0 % d = v % d := by rw [Int.pow_zero, Int.ediv_one]
      rw [e0]
      clear hblk hsl e0
      go_wp2
      go_ret2
      exact ⟨_, rfl, hbr, HSL.out⟩
    · obtain ⟨j, rfl⟩ : ∃ j, k = j + 1 := ⟨k - 1, by omega⟩
      have hx := lims_get v (show j < n by omega)
      have hz := lims_get (v / d) (show j < n by omega)
      have hxb := lim_bd v j
      obtain ⟨e1, e2⟩ := lim_div (v := v) HD0.out j (Int.le_of_lt HD1.out)
      have hrb0 := Int.emod_nonneg (v / (18446744073709551616 : Int) ^ (j + 1)) (show d ≠ 0 from hdn)
      have hrb1 := Int.emod_lt_of_pos (v / (18446744073709551616 : Int) ^ (j + 1)) HD0.out
      have c0 := (hbr.cell (p := ⟨b, off + j, none⟩) hb).trans (HC.out _ _ hx)
      have HZ := hide hz
      rw [e1] at HZ
      generalize v / (18446744073709551616 : Int) ^ (j + 1) % d = r at *
      generalize lim v j = x at *
      have HW : Hid (∀ wk, Calls Tryd.prog 38 #[.int .u64 r, .int .u64 x, .int .u64 d] wk fun e w' => e = .returned (.tuple #[.int .u64 ((r * 18446744073709551616 + x) / d), .int .u64 ((r * 18446744073709551616 + x) % d)]) ∧ Below wk.heap.size wk w') := hide fun wk => div64_int r x d hrb0 hrb1 HD1.out hxb.1 hxb.2 wk
      obtain ⟨z, hz2⟩ : ∃ z, z = (r * 18446744073709551616 + x) / d := ⟨_, rfl⟩
      obtain ⟨q, hq⟩ : ∃ q, q = (r * 18446744073709551616 + x) % d := ⟨_, rfl⟩
      rw [← hz2] at HW HZ
      rw [← hq] at HW e2
      have E2 := hide e2
      have hkn : (j : Int) < (n : Int) := by omega
      have hk0 : (0 : Int) ≤ (j : Int) := by omega
      have ej : ((j + 1 : Nat) : Int) - 1 = (j : Int) := by omega
      rw [ej]
      clear e1 e2 hx hz hz2 hq hxb hrb0 hrb1 ej hpos
      go_wp2_with fail
      refine (HW.out _).mono ?_
      rintro e w2 ⟨rfl, hb2⟩
      have hbr2 := hbr.trans (hb2.mono hbr.size)
      have hblk2 := hblk.step hb2
      have g0 := hblk2.cell (div_cells_get (lims n (v / d)) j)
      have f0 := hblk2.frozen j
      have hgl := hblk2.lt
      have HB := hide (hblk2.set j (.int .u64 z))
      rw [div_cells_set HZ.out] at HB
      clear hblk hblk2
      have ejw : IntKind.i64.wrap ((j : Int) - 1) = (j : Int) - 1 := by rw [IntKind.wrap_i64]; omega
      go_wp2
      go_roundw
      case rel => exact ⟨j, by omega, rfl, by rw [E2.out], hbr2.setCell (by exact hge.1) _, HB.out⟩
      case measure => simp [intOf]
end Go.Proofs.YthdpbmpdiaencaaDoor
