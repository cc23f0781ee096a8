/- The reference's points: a row of points out of bytes. -/
import Derived.Test.YtcfbkabiapaobaaDoorWordAt
import Derived.Test.YtcfbkabiapaobaaDoorTake
import Derived.Deep.AppendLies
import Derived.Test.YtcfbkabiapaobaaDoorFormat
namespace Go.Proofs.YtcfbkabiapaobaaDoor
open Go.RowKit

/-- the point at a place with a distance -/
def ptOff (bs : List Int) (at_ step i : Nat) : Int × Int := (i64w (le (eight bs (at_ + i * step))), i64w (le (eight bs (at_ + i * step + 8))))
def ptsOff (bs : List Int) (at_ step n : Nat) : List (Int × Int) := (List.range n).map (ptOff bs at_ step)
theorem ptsOff_length (bs : List Int) (at_ step n : Nat) : (ptsOff bs at_ step n).length = n := by simp [ptsOff]
theorem ptsOff_succ (bs : List Int) (at_ step n : Nat) : ptsOff bs at_ step (n + 1) = ptsOff bs at_ step n ++ [ptOff bs at_ step n] := by simp [ptsOff, List.range_succ]

def Pointed (ps : List (Int × Int)) (w : World) (e : Ending) (w' : World) : Prop :=
  ∃ A c, e = .returned (.slice A ps.length c) ∧ Below w.heap.size w w' ∧ w'.ownsRow w.heap.size 49 2 (.slice A ps.length c) ps.length (ptCs ps)

set_option maxRecDepth 100000 in
set_option maxHeartbeats 4000000 in
theorem rpoints_at (bs : List Int) (A : Option Addr) (c : Nat) (w : World) (hs : Sl w w.heap.size A (byCells bs)) (hby : By bs) (hbl : bs.length ≤ 1000000) (at_ n step : Nat) (hst : step ≤ 100) (h16 : 16 ≤ step) (hn : at_ + n * step ≤ bs.length) :
    Calls Tryd.prog 28 #[.slice A bs.length c, .int .i64 (at_ : Int), .int .i64 (n : Int), .int .i64 (step : Int)] w (Pointed (ptsOff bs at_ step n) w) := by
  have HS := hide hs; have HBY := hide hby
  clear hs hby
  have hnn : n ≤ 1000000 := Nat.le_trans (Nat.le_trans (Nat.le_mul_of_pos_right n (by omega : 0 < step)) (Nat.le_add_left _ at_)) (Nat.le_trans hn hbl)
  have HN := hide hn
  clear hn
  go_enter Tryd.func28, Tryd.ntmps28
  go_wp2
  go_loopw [9, 10] (fun u i wr => ∃ k : Nat, k ≤ n ∧ i = .int .i64 k ∧ Below w.heap.size w wr ∧ wr.ownsRow w.heap.size 49 2 u k (ptCs (ptsOff bs at_ step k)))
    (fun _ i _ => n - (intOf i).toNat)
  case atStart => exact ⟨0, by omega, rfl, Below.refl _ _, World.ownsRow_nil _ _ _ _⟩
  case round =>
    obtain ⟨k, hk, rfl, hbr, hown⟩ := hrel
    by_cases hlt : k < n
    · have hks : k * step + step ≤ n * step := by
        have := Nat.mul_le_mul_right step (show k + 1 ≤ n from hlt)
        rw [Nat.succ_mul] at this; exact this
      have hln := HN.out
      obtain ⟨kp, hkp⟩ : ∃ kp, kp = k * step := ⟨_, rfl⟩
      have hmul : (k : Int) * (step : Int) = (kp : Int) := by rw [hkp]; exact (Int.natCast_mul k step).symm
      rw [← hkp] at hks
      have W1 := wordAt_any bs A c wr.heap.size wr ((HS.out.below hbr).more hbr.size) HBY.out hbl (at_ + kp) (by omega)
      have W2 := wordAt_any bs A c wr.heap.size wr ((HS.out.below hbr).more hbr.size) HBY.out hbl (at_ + kp + 8) (by omega)
      rw [show ((at_ + kp : Nat) : Int) = (at_ : Int) + (kp : Int) by omega] at W1
      rw [show ((at_ + kp + 8 : Nat) : Int) = (at_ : Int) + (kp : Int) + 8 by omega] at W2
      obtain ⟨x, hx⟩ : ∃ x, x = le ((bs.drop (at_ + kp)).take 8) := ⟨_, rfl⟩
      obtain ⟨y, hy⟩ : ∃ y, y = le ((bs.drop (at_ + kp + 8)).take 8) := ⟨_, rfl⟩
      rw [← hx] at W1
      rw [← hy] at W2
      have HPT : Hid (ptsOff bs at_ step (k + 1) = ptsOff bs at_ step k ++ [(wrap64 x, wrap64 y)]) := by
        apply hide; rw [ptsOff_succ]; unfold ptOff eight i64w; rw [← hkp, ← hx, ← hy]
      have HW1 := hide W1; have HW2 := hide W2; have HKP := hide hkp; have HX := hide hx; have HY := hide hy
      obtain ⟨i0, hi, hi0, hi1, hi2⟩ := info_parts pt_info
      have hkpb : at_ + kp ≤ 1000000 := by omega
      clear W1 W2 hkp hx hy hln hks
      have hlk : (ptsOff bs at_ step k).length = k := ptsOff_length _ _ _ _
      have hw1 : IntKind.i64.wrap ((k : Int) * (step : Int)) = (kp : Int) := by rw [hmul, IntKind.wrap_i64]; omega
      have hw2 : IntKind.i64.wrap ((at_ : Int) + (kp : Int)) = (at_ : Int) + (kp : Int) := by rw [IntKind.wrap_i64]; omega
      have hw3 : IntKind.i64.wrap ((at_ : Int) + (kp : Int) + 8) = (at_ : Int) + (kp : Int) + 8 := by rw [IntKind.wrap_i64]; omega
      go_wp2_with fail
      refine HW1.out.mono ?_
      rintro e w' ⟨rfl, rfl⟩
      go_wp2_with fail
      refine HW2.out.mono ?_
      rintro e w' ⟨rfl, rfl⟩
      have hbs := hbr.size
      go_wp2_with (at_builtin; refine wpList_append_own _ rfl (.tmp 16) (.tmp 35) 27 rfl w.heap.size 49 i0 (.agg #[.int .i64 0, .int .i64 0]) 2 16 Tryd.underlying27 hi hi0 hi1 hi2 rfl (by decide) _ k (ptCs (ptsOff bs at_ step k)) rfl (hown.alloc _) ⟨wr.heap.size, 0, none⟩ 1 1 [.int .i64 (wrap64 x), .int .i64 (wrap64 y)] rfl rfl ?d1 ?d2 ?d3 ?d4 ?d5 ?_)
      case d1 => exact blk_cells (Blk.new _ _ _)
      case d2 => simp [Value.oneCell']
      case d3 => unfold maxLen; omega
      case d4 => omega
      case d5 => simp; omega
      intro v3 w3 hown3 hgrow3 _
      have hb3 : Below w.heap.size w w3 := (bl_alloc hbr _).grown hgrow3 (by simp; omega) (fun k hk => own_base hown hk)
      have hown4 : w3.ownsRow w.heap.size 49 2 v3 (k + 1) (ptCs (ptsOff bs at_ step (k + 1))) := by
        rw [HPT.out]; simpa [ptCs] using hown3
      have HO := hide hown4
      clear hown3 hown4 hgrow3
      go_wp2
      go_roundw
      case rel => exact ⟨k + 1, by omega, by go_num, hb3, HO.out⟩
      case measure => simp [intOf]; omega
    · obtain rfl : n = k := by omega
      have hl := ptsOff_length bs at_ step n
      obtain ⟨RA, rcap, rfl, _⟩ := own_slice hown
      go_wp2
      go_ret
      exact ⟨RA, rcap, by rw [hl]; rfl, hbr, by rw [hl]; exact hown⟩
end Go.Proofs.YtcfbkabiapaobaaDoor
