/- The examples of chapter 18 hold. -/
import Derived.Test.YtcfbkabiapaobaaDoorEncode
import Derived.Test.YtcfbkabiapaobaaDoorRead
import Derived.Test.YtcfbkabiapaobaaDoorBytes
namespace Go.Proofs.YtcfbkabiapaobaaDoor
open Go.RowKit

def exPts : List (Int × Int) := [(1, 2), (3, 4), (-1, 0)]
def exBytes : List Int := (hencode 1 0 [] 0 [] exPts []).1
theorem ex_enc : hencode 1 0 [] 0 [] exPts [] = (exBytes, 0) := by decide +kernel
theorem ex_len : exBytes.length = 49 := by decide +kernel
theorem ex_take : exBytes.take 9 = [1, 1, 0, 0, 0, 0, 0, 0, 0] := by decide +kernel
theorem ex_read : hread 1 0 [] 0 [0, 2] = (⟨2, 0, []⟩, 0) := by rfl
theorem ex_read8 : hread 1 0 [] 0 [8] = (ansZero, 8) := by rfl
theorem sl_blk {w : World} {g : Nat} {t : TypeId} {xs : List Value} (h : Blk w g t xs.toArray) : Sl w w.heap.size (some ⟨g, 0, none⟩) xs :=
  Sl.mk h.lt fun j u hu => by rw [Nat.zero_add]; exact h.cell (by simpa using hu)
theorem by_dec {bs : List Int} (h : (bs.all fun x => decide (0 ≤ x) && decide (x ≤ 255)) = true) : By bs := by
  intro x hx
  have := List.all_eq_true.1 h x hx
  simpa using this

set_option maxRecDepth 100000 in
set_option maxHeartbeats 2000000 in
theorem alive18 (w : World) : Calls Tryd.prog 6 #[] w fun e w' => e = .returned (.bool true) ∧ Below w.heap.size w w' := by
  go_enter Tryd.func6, Tryd.ntmps6
  go_wp2_with fail
  obtain ⟨w0, hw0⟩ : ∃ w0, w0 = (w.alloc (.cells #[.int .i64 1, .int .i64 0, .slice none 0 0, .int .i64 0] 26)).alloc (.cells #[.int .i64 1, .int .i64 2, .int .i64 3, .int .i64 4, .int .i64 (-1), .int .i64 0] 49) := ⟨_, rfl⟩
  rw [← hw0]
  have hb0 : Below w.heap.size w w0 := by rw [hw0]; exact bl_alloc (bl_alloc (Below.refl _ _) _) _
  have B0 : Blk w0 w.heap.size 26 #[.int .i64 1, .int .i64 0, .slice none 0 0, .int .i64 0] := by rw [hw0]; exact (Blk.new _ _ _).alloc _
  have P0 : Blk w0 (w.heap.size + 1) 49 (ptCs exPts).toArray := by rw [hw0]; exact Blk.new2 _ _ _ _
  have HW0 := hide hw0; clear hw0
  have E := encode_any 1 0 0 [] none 0 [] none 0 exPts (some ⟨w.heap.size + 1, 0, none⟩) 3 [] none 0 w0 (Sl.nil _ _ _) (Sl.nil _ _ _) (fun g hg => by cases hg) (sl_blk P0) (Sl.nil _ _ _) (by simp [maxLen])
  rw [ex_enc] at E
  refine E.mono ?_
  clear E
  rintro e w1 ⟨v, rfl, hv, hb1⟩
  dsimp only at hv
  rw [ex_len] at hv
  obtain ⟨VA, vc, rfl, hvc⟩ := own_slice hv
  have HSV : Hid (Sl w1 w1.heap.size VA (byCells exBytes)) := hide (Sl.of_own hv)
  have HB1 := bl_step hb0 hb1
  have B1 := B0.step hb1
  clear hv
  have b0 := B1.cell (i := 0) rfl
  have b1 := B1.cell (i := 1) rfl
  have b2 := B1.cell (i := 2) rfl
  have b3 := B1.cell (i := 3) rfl
  go_wp2_with fail
  have R1 := read_any 1 0 0 [] none 0 [0, 2] (some ⟨w1.heap.size, 0, none⟩) 2 (w1.alloc (.cells #[.int .u8 0, .int .u8 2] 5)) (Sl.nil _ _ _) (by simp [maxLen]) (sl_blk (Blk.new _ _ _)) (by simp) (by simp) (by_dec (by decide))
  rw [ex_read] at R1
  refine R1.mono ?_
  clear R1
  rintro e w2 ⟨RA, rc, rfl, hb2, hsl2⟩
  have HB2 := bl_step (bl_alloc HB1 _) hb2
  have B2 := (B1.alloc (.cells #[.int .u8 0, .int .u8 2] 5)).step hb2
  have HSV2 : Hid (Sl w2 w2.heap.size VA (byCells exBytes)) := hide (((HSV.out.below (bl_alloc (Below.refl _ _) (.cells #[.int .u8 0, .int .u8 2] 5))).below (hb2.mono (by simp))).more (by have := hb2.size; simp at this; omega))
  clear b0 b1 b2 b3 hsl2 HSV
  have b0 := B2.cell (i := 0) rfl
  have b1 := B2.cell (i := 1) rfl
  have b2 := B2.cell (i := 2) rfl
  have b3 := B2.cell (i := 3) rfl
  have hBl := B2.lt
  go_wp2_with fail
  obtain ⟨w3, hw3⟩ : ∃ w3, w3 = (w2.alloc (.cells #[.int .i64 2, .int .i64 0, .slice RA 0 rc] 52)) := ⟨_, rfl⟩
  rw [← hw3]
  have hb3 : Below w2.heap.size w2 w3 := by rw [hw3]; exact bl_alloc (Below.refl _ _) _
  have A3 : Blk w3 w2.heap.size 52 #[.int .i64 2, .int .i64 0, .slice RA 0 rc] := by rw [hw3]; exact Blk.new _ _ _
  have hz3 : w3.heap.size = w2.heap.size + 1 := by rw [hw3]; simp
  have HW3 := hide hw3; clear hw3
  rw [← hz3]
  have HZ3 := hide hz3; clear hz3
  have R2 := read_any 1 0 0 [] none 0 [8] (some ⟨w3.heap.size, 0, none⟩) 1 (w3.alloc (.cells #[.int .u8 8] 5)) (Sl.nil _ _ _) (by simp [maxLen]) (sl_blk (Blk.new _ _ _)) (by simp) (by simp) (by_dec (by decide))
  rw [ex_read8] at R2
  refine R2.mono ?_
  clear R2
  rintro e w4 ⟨SA, sc, rfl, hb4, hsl4⟩
  have HB3 := bl_step HB2 hb3
  have HB4 := bl_step (bl_alloc HB3 _) hb4
  have A4 := (A3.alloc (.cells #[.int .u8 8] 5)).step hb4
  have HSV4 : Hid (Sl w4 w4.heap.size VA (byCells exBytes)) := hide ((((HSV2.out.below hb3).below ((bl_alloc (Below.refl _ _) (.cells #[.int .u8 8] 5)).mono hb3.size)).below (hb4.mono (by have := hb3.size; simp; omega))).more (by have := hb3.size; have := hb4.size; simp at this; omega))
  clear b0 b1 b2 b3 hsl4 HSV2
  have a0 := A4.cell (i := 0) rfl
  have hAl := A4.lt
  dsimp only [ansZero]
  go_wp2_with fail
  have HP := hasPrefix_true exBytes 9 VA (some ⟨w4.heap.size + 1, 0, none⟩) vc 9 ((w4.alloc (.cells #[.int .i64 0, .int .i64 0, .slice SA 0 sc] 52)).alloc (.cells #[.int .u8 1, .int .u8 1, .int .u8 0, .int .u8 0, .int .u8 0, .int .u8 0, .int .u8 0, .int .u8 0, .int .u8 0] 5))
    ((HSV4.out.below (bl_alloc (bl_alloc (Below.refl _ _) _) _)).more (by simp; omega)) (by rw [ex_take]; have h := sl_blk (xs := byCells [1, 1, 0, 0, 0, 0, 0, 0, 0]) (Blk.new2 w4 (.cells #[.int .i64 0, .int .i64 0, .slice SA 0 sc] 52) 5 _); exact h) (by rw [ex_len]; omega) (by rw [ex_len]; exact hvc)
  rw [ex_len] at HP
  refine HP.mono ?_
  clear HP
  rintro e w5 ⟨rfl, rfl⟩
  go_wp2
  go_ret
  exact ⟨rfl, bl_alloc (bl_alloc HB4 _) _⟩
end Go.Proofs.YtcfbkabiapaobaaDoor
