/- The examples of chapter 17 hold. -/
import Derived.Test.YtnnglpohkhjggaaDoorClassify
namespace Go.Proofs.YtnnglpohkhjggaaDoor
open Go.RowKit

theorem Sl.of_blk {w : World} {g : Nat} {t : TypeId} {xs : List Value} (h : Blk w g t xs.toArray) : Sl w w.heap.size (some ⟨g, 0, none⟩) xs :=
  Sl.mk h.lt fun j u hu => by rw [Nat.zero_add]; exact h.cell (by simpa using hu)
theorem bytes_ok {bs : List Int} (h : (bs.all fun x => decide (0 ≤ x) && decide (x ≤ 255)) = true) : ∀ (j : Nat) (x : Int), bs[j]? = some x → 0 ≤ x ∧ x ≤ 255 := by
  intro j x hx
  have := List.all_eq_true.1 h x (List.mem_of_getElem? hx)
  simpa using this

theorem hp_34 : hparse [3, 4] = (⟨3, 4, [], 0⟩, 2, 0) := by rfl
theorem hp_5 : hparse [5, 1, 128, 2, 0, 99] = (⟨5, 0, [⟨true, 0, none, 0, 0⟩], 2⟩, 5, 0) := by rfl
theorem hpay_3 : hpay 3 4 [] 0 = 80 := by rfl
theorem hpay_5 : hpay 5 0 [⟨true, 0, none, 0, 0⟩] 2 = 96 := by rfl
theorem hresp_5 : hresp 5 0 [⟨true, 0, none, 0, 0⟩] 2 = 22 := by rfl
theorem hclass_nil : hclass [] = 4 := by rfl
theorem hclass_9 : hclass [9] = 5 := by rfl

section
variable (w : World) (hfix : Fixed w) (hg : 0 < w.heap.size)
include hfix hg
theorem fixed_at {w' : World} (hb : Below w.heap.size w w') : Fixed w' ∧ 0 < w'.heap.size := ⟨hfix.below hb hg, Nat.lt_of_lt_of_le hg hb.size⟩

set_option maxRecDepth 100000 in
set_option maxHeartbeats 2000000 in
theorem alive_true : Calls Tryd.prog 12 #[] w fun e w' => e = .returned (.bool true) ∧ Below w.heap.size w w' := by
  have HF := hide hfix; clear hfix
  go_enter Tryd.func12, Tryd.ntmps12
  go_wp2_with fail
  have P1 := parse_any [3, 4] (some ⟨w.heap.size, 0, none⟩) 2 (w.alloc (.cells #[.int .u8 3, .int .u8 4] 5)) (Sl.of_blk (Blk.new _ _ _) |>.more (by simp)) (by simp) (bytes_ok (by decide))
  rw [hp_34] at P1
  refine P1.mono ?_
  clear P1
  rintro e w1 ⟨A1, c1, rfl, hsl1, hb1⟩
  have hB1 := bl_step (bl_alloc (Below.refl _ _) _) hb1
  go_wp2_with fail
  have P2 := parse_any [5, 1, 128, 2, 0, 99] (some ⟨w1.heap.size + 1, 0, none⟩) 6 ((w1.alloc (.cells #[.int .i64 3, .int .i64 4, .slice A1 0 c1, .int .i64 0] 25)).alloc (.cells #[.int .u8 5, .int .u8 1, .int .u8 128, .int .u8 2, .int .u8 0, .int .u8 99] 5)) (by
    have h := Blk.new (w1.alloc (.cells #[.int .i64 3, .int .i64 4, .slice A1 0 c1, .int .i64 0] 25)) 5 (byCells [5, 1, 128, 2, 0, 99]).toArray
    have h2 := Sl.of_blk h
    simpa [byCells] using h2) (by simp) (bytes_ok (by decide))
  rw [hp_5] at P2
  refine P2.mono ?_
  clear P2
  rintro e w2 ⟨A2, c2, rfl, hsl2, hb2⟩
  have hB2 := bl_step (bl_alloc (bl_alloc hB1 _) _) hb2
  have B1 := ((Blk.new w1 25 #[.int .i64 3, .int .i64 4, .slice A1 0 c1, .int .i64 0]).alloc (.cells #[.int .u8 5, .int .u8 1, .int .u8 128, .int .u8 2, .int .u8 0, .int .u8 99] 5)).step hb2
  have l1 := B1.lt
  have f10 := B1.cell (i := 0) rfl
  have f11 := B1.cell (i := 1) rfl
  have f12 := B1.cell (i := 2) rfl
  have f13 := B1.cell (i := 3) rfl
  dsimp only at hsl2
  go_wp2_with fail
  obtain ⟨g1, g2⟩ := fixed_at w HF.out hg (bl_alloc hB2 (.cells #[.int .i64 5, .int .i64 0, .slice A2 1 c2, .int .i64 2] 25))
  have Q1 := payload_any 4 [] A1 c1 0 (w2.alloc (.cells #[.int .i64 5, .int .i64 0, .slice A2 1 c2, .int .i64 2] 25)) (Sl.nil _ _ _) (by simp [maxLen]) g1 g2 3
  rw [hpay_3] at Q1
  refine Q1.mono ?_
  clear Q1 g1 g2
  rintro e w3 ⟨rfl, hb3⟩
  have hB3 := bl_step (bl_alloc hB2 _) hb3
  have B2 := (Blk.new w2 25 #[.int .i64 5, .int .i64 0, .slice A2 1 c2, .int .i64 2]).step hb3
  have f20 := B2.cell (i := 0) rfl
  have f21 := B2.cell (i := 1) rfl
  have f22 := B2.cell (i := 2) rfl
  have f23 := B2.cell (i := 3) rfl
  have hs3 := ((hsl2.below ((Below.refl _ _).alloc (Nat.le_refl _) (.cells #[.int .i64 5, .int .i64 0, .slice A2 1 c2, .int .i64 2] 25))).below (hb3.mono (by simp))).more (B' := w3.heap.size) (by have := B2.lt; omega)
  go_wp2_with fail
  obtain ⟨g1, g2⟩ := fixed_at w HF.out hg hB3
  have Q2 := payload_any 0 [⟨true, 0, none, 0, 0⟩] A2 c2 2 w3 hs3 (by simp [maxLen]) g1 g2 5
  rw [hpay_5] at Q2
  refine Q2.mono ?_
  clear Q2 g1 g2
  rintro e w4 ⟨rfl, hb4⟩
  have hB4 := bl_step hB3 hb4
  have B3 := B2.step hb4
  have f30 := B3.cell (i := 0) rfl
  have f31 := B3.cell (i := 1) rfl
  have f32 := B3.cell (i := 2) rfl
  have f33 := B3.cell (i := 3) rfl
  go_wp2_with fail
  have Q3 := response_any 0 [⟨true, 0, none, 0, 0⟩] A2 c2 2 w4 ((hs3.below hb4).more hb4.size) (by simp [maxLen]) 5
  rw [hresp_5] at Q3
  refine Q3.mono ?_
  clear Q3
  rintro e w5 ⟨rfl, hb5⟩
  have hB5 := bl_step hB4 hb5
  go_wp2_with fail
  obtain ⟨g1, g2⟩ := fixed_at w HF.out hg hB5
  have Q4 := classify_any [] none 0 w5 (Sl.nil _ _ _) (by simp) (bytes_ok (by decide)) (by simp) g1 g2
  rw [hclass_nil] at Q4
  refine Q4.mono ?_
  clear Q4 g1 g2
  rintro e w6 ⟨rfl, hb6⟩
  have hB6 := bl_step hB5 hb6
  go_wp2_with fail
  obtain ⟨g1, g2⟩ := fixed_at w HF.out hg (bl_alloc hB6 (.cells #[.int .u8 9] 5))
  have Q5 := classify_any [9] (some ⟨w6.heap.size, 0, none⟩) 1 (w6.alloc (.cells #[.int .u8 9] 5)) (Sl.of_blk (Blk.new _ _ _)) (by simp) (bytes_ok (by decide)) (by simp) g1 g2
  rw [hclass_9] at Q5
  refine Q5.mono ?_
  clear Q5 g1 g2
  rintro e w7 ⟨rfl, hb7⟩
  have hB7 := bl_step (bl_alloc hB6 _) hb7
  go_wp2
  go_ret
  exact ⟨rfl, hB7⟩
end
end Go.Proofs.YtnnglpohkhjggaaDoor
