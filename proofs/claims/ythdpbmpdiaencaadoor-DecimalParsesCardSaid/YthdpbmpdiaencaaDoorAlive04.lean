/- The examples of chapter 4 hold. -/
import Derived.Test.YthdpbmpdiaencaaDoorDecParse3
import Derived.Test.YthdpbmpdiaencaaDoorDecFormat
namespace Go.Proofs.YthdpbmpdiaencaaDoor
open Go.RowKit

theorem strOfNums_strOf (l : List UInt8) : strOfNums (l.map fun b => (b.toNat : Int)) = strOf l := by
  unfold strOfNums strOf
  congr 1
  rw [List.map_map]
  congr 1
  conv => rhs; rw [← List.map_id l]
  refine List.map_congr_left fun b _ => ?_
  simp
theorem ex_p1 : pErr [57, 50, 50, 51, 51, 55, 50, 48, 51, 54, 56, 53, 52, 55, 55, 53, 56, 48, 56] 1 = 3 := by decide +kernel
theorem ex_p2 : pErr [45, 48] 1 = 9 := by decide +kernel
theorem dr_1 : dr 18446744073709551616 = [6, 1, 6, 1, 5, 5, 9, 0, 7, 3, 7, 0, 4, 4, 7, 6, 4, 4, 8, 1] := dr_dvR [6, 1, 6, 1, 5, 5, 9, 0, 7, 3, 7, 0, 4, 4, 7, 6, 4, 4, 8, 1] (by decide) (by decide) (by decide)
theorem dr_2 : dr 5 = [5] := dr_small (by decide)
theorem ex_f1 : (strOfNums (fmtI 18446744073709551616)) = { data := #[49, 56, 52, 52, 54, 55, 52, 52, 48, 55, 51, 55, 48, 57, 53, 53, 49, 54, 49, 54] } := by
  have e : fmtI 18446744073709551616 = (asc (dr 18446744073709551616)).reverse := fmtI_pos (by decide)
  rw [e, dr_1]; rfl
theorem ex_f2 : (strOfNums (fmtI (-5))) = { data := #[45, 53] } := by
  have e : fmtI (-5) = (asc (dr 5) ++ [45]).reverse := fmtI_neg (by decide)
  rw [e, dr_2]; rfl
theorem ex_l1 : lims 2 18446744073709551616 = [0, 1] := by decide +kernel
theorem ex_l2 : lims 3 (-5) = [18446744073709551611, 18446744073709551615, 18446744073709551615] := by decide +kernel
theorem words_at {w w' : World} (hw : MWords w) (hwg : 2 < w.heap.size) (hb : Below w.heap.size w w') : MWords w' ∧ 2 < w'.heap.size :=
  ⟨⟨(hb.cell (p := ⟨2, 0, none⟩) hwg).trans hw.1, (hb.cell (p := ⟨2, 1, none⟩) hwg).trans hw.2⟩, Nat.lt_of_lt_of_le hwg hb.size⟩
theorem parse_bad (s : ByteArray) (l : List UInt8) (hl : s.data.toList = l) (n : Int) (k : Int) (hk : pErr l n = k) (h0 : k ≠ 0) (hs : s.size ≤ maxLen) (w : World) (hw : MWords w) (hwg : 2 < w.heap.size) :
    Calls Tryd.prog 12 #[.string s, .int .i64 n] w fun e w' => e = .returned (.tuple #[.slice none 0 0, .int .i64 k]) ∧ Below w.heap.size w w' := by
  refine (parse_dec s n hs w hw hwg).mono ?_
  rintro e w' ⟨hb, ⟨h, _⟩ | ⟨_, rfl⟩⟩
  · rw [hl, hk] at h; exact absurd h h0
  · rw [hl, hk]; exact ⟨rfl, hb⟩
set_option maxRecDepth 100000 in
set_option maxHeartbeats 2000000 in
theorem alive_true (w : World) (hw : MWords w) (hwg : 2 < w.heap.size) : Calls Tryd.prog 9 #[] w fun e w' => e = .returned (.bool true) ∧ Below w.heap.size w w' := by
  have P1 := hide (parse_bad { data := #[57, 50, 50, 51, 51, 55, 50, 48, 51, 54, 56, 53, 52, 55, 55, 53, 56, 48, 56] } _ rfl 1 3 ex_p1 (by decide) (by decide) w hw hwg)
  go_enter Tryd.func9, Tryd.ntmps9
  go_wp2_with fail
  refine P1.out.mono ?_
  rintro e w1 ⟨rfl, hb1⟩
  obtain ⟨g1, g2⟩ := words_at hw hwg hb1
  have P2 := hide (parse_bad { data := #[45, 48] } _ rfl 1 9 ex_p2 (by decide) (by decide) w1 g1 g2)
  clear g1 g2
  go_wp2_with fail
  refine P2.out.mono ?_
  rintro e w2 ⟨rfl, hb2⟩
  have hB2 := bl_step hb1 hb2
  obtain ⟨w3, hw3⟩ : ∃ w3, w3 = w2.alloc (.cells #[.int .u64 0, .int .u64 1] 33) := ⟨_, rfl⟩
  have hb3 : Below w2.heap.size w2 w3 := by rw [hw3]; exact bl_alloc (Below.refl _ _) _
  have B3 : Blk w3 w2.heap.size 33 #[.int .u64 0, .int .u64 1] := by rw [hw3]; exact Blk.new _ _ _
  have hB3 := bl_step hB2 hb3
  obtain ⟨g1, g2⟩ := words_at hw hwg hB3
  have F1 := format_any 2 18446744073709551616 (by unfold Fits; decide) (by decide) (by decide) (some ⟨w2.heap.size, 0, none⟩) 2 w3 (by rw [ex_l1]; exact Sl.mk B3.lt fun j u hu => by rw [Nat.zero_add]; exact B3.cell (by simpa [uCs] using hu)) g1 g2
  rw [ex_f1] at F1
  have HF1 := hide F1
  clear g1 g2 F1 B3
  go_wp2_with fail
  rw [← hw3]
  have HW3 := hide hw3
  clear hw3
  refine HF1.out.mono ?_
  rintro e w4 ⟨rfl, hb4⟩
  have hB4 := bl_step hB3 hb4
  obtain ⟨w5, hw5⟩ : ∃ w5, w5 = w4.alloc (.cells #[.int .u64 18446744073709551611, .int .u64 18446744073709551615, .int .u64 18446744073709551615] 33) := ⟨_, rfl⟩
  have hb5 : Below w4.heap.size w4 w5 := by rw [hw5]; exact bl_alloc (Below.refl _ _) _
  have B5 : Blk w5 w4.heap.size 33 #[.int .u64 18446744073709551611, .int .u64 18446744073709551615, .int .u64 18446744073709551615] := by rw [hw5]; exact Blk.new _ _ _
  have hB5 := bl_step hB4 hb5
  obtain ⟨g1, g2⟩ := words_at hw hwg hB5
  have F2 := format_any 3 (-5) (by unfold Fits; decide) (by decide) (by decide) (some ⟨w4.heap.size, 0, none⟩) 3 w5 (by rw [ex_l2]; exact Sl.mk B5.lt fun j u hu => by rw [Nat.zero_add]; exact B5.cell (by simpa [uCs] using hu)) g1 g2
  rw [ex_f2] at F2
  have HF2 := hide F2
  clear g1 g2 F2 B5
  go_wp2_with fail
  rw [← hw5]
  have HW5 := hide hw5
  clear hw5
  refine HF2.out.mono ?_
  rintro e w6 ⟨rfl, hb6⟩
  have hB6 := bl_step hB5 hb6
  go_wp2
  go_ret
  exact ⟨rfl, hB6⟩
end Go.Proofs.YthdpbmpdiaencaaDoor
