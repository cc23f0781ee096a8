/- CodecReads: the law's function returns true. -/
import Derived.Test.YtcfbkabiapaobaaAlive18
import Derived.Test.YtcfbkabiapaobaaRefRead
import Derived.Test.YtcfbkabiapaobaaSame13
namespace Go.Proofs.Ytcfbkabiapaobaa
open Go.RowKit

theorem hread_recs_len (op vs : Int) (hrs : List Rg) (pts : Int) (bs : List Int) : (hread op vs hrs pts bs).1.recs.length ≤ pts.toNat := by
  unfold hread
  have h0 : ansZero.recs.length ≤ pts.toNat := by simp [ansZero]
  have h1 : (rdAns op pts bs).recs.length ≤ pts.toNat := by
    unfold rdAns
    dsimp only
    split
    · rw [recsOf_length]; exact Nat.le_refl _
    · simp
  repeat' split
  all_goals first | exact h0 | exact h1

section
variable (op vs pts : Int) (hrs : List Rg) (HA : Option Addr) (hc : Nat) (bs : List Int) (BA : Option Addr) (bc : Nat) (w : World)
variable (hh : Sl w w.heap.size HA (rgCells hrs)) (hn : hrs.length ≤ maxLen) (hs : Sl w w.heap.size BA (byCells bs)) (hbc : bs.length ≤ bc) (hbm : bc ≤ maxLen) (hby : By bs) (hpt : pts ≤ 9223372036854775807)
include hh hn hs hbc hbm hby hpt
set_option maxRecDepth 1000000 in
set_option maxHeartbeats 4000000 in
theorem lawReads : Calls Try.prog 4 #[.agg #[.int .i64 op, .int .i64 vs, .slice HA hrs.length hc, .int .i64 pts], .slice BA bs.length bc] w fun e w' => e = .returned (.bool true) ∧ Below w.heap.size w w' := by
  have hbl0 : bs.length ≤ 9223372036854775807 := by unfold maxLen at hbm; omega
  have hhl0 : hrs.length ≤ 9223372036854775807 := by unfold maxLen at hn; omega
  have HN := hide hn
  have HBC := hide hbc
  have HH := hide hh; have HS := hide hs; have HBY := hide hby
  clear hh hs hby hn hbc hbm
  by_cases h200 : 200 < hrs.length
  · go_enter Try.func4, Try.ntmps4
    go_wp2_with fail
    refine (alive18 _).mono ?_
    rintro e w1 ⟨rfl, hb1⟩
    go_wp2
    go_ret
    exact ⟨rfl, bl_step (bl_alloc (Below.refl _ _) _) hb1⟩
  by_cases h5 : 50000 < bs.length
  · go_enter Try.func4, Try.ntmps4
    go_wp2_with fail
    refine (alive18 _).mono ?_
    rintro e w1 ⟨rfl, hb1⟩
    go_wp2
    go_ret
    exact ⟨rfl, bl_step (bl_alloc (Below.refl _ _) _) hb1⟩
  · obtain ⟨w0, hw0⟩ : ∃ w0, w0 = w.alloc (.cells #[.int .i64 op, .int .i64 vs, .slice HA hrs.length hc, .int .i64 pts] 24) := ⟨_, rfl⟩
    have hb0 : Below w.heap.size w w0 := by rw [hw0]; exact bl_alloc (Below.refl _ _) _
    have B0 : Blk w0 w.heap.size 24 #[.int .i64 op, .int .i64 vs, .slice HA hrs.length hc, .int .i64 pts] := by rw [hw0]; exact Blk.new _ _ _
    have R1 := read_any op vs pts hrs HA hc bs BA bc w0 ((HH.out.below hb0).more hb0.size) HN.out ((HS.out.below hb0).more hb0.size) HBC.out (by omega) HBY.out
    have hrl := hread_recs_len op vs hrs pts bs
    obtain ⟨r, hr⟩ : ∃ r, hread op vs hrs pts bs = r := ⟨_, rfl⟩
    have HR := hide hr
    rw [hr] at R1 hrl
    obtain ⟨⟨val, cnt, recs⟩, er⟩ := r
    have HR1 := hide R1
    clear R1 hr
    dsimp only at hrl
    go_enter Try.func4, Try.ntmps4
    go_wp2_with fail
    rw [← hw0]
    have HW0 := hide hw0; clear hw0
    refine HR1.out.mono ?_
    rintro e w1 ⟨XA, xc, rfl, hb1, hsx⟩
    have HB1 := bl_step hb0 hb1
    have B1 := B0.step hb1
    have b0 := B1.cell (i := 0) rfl
    have b1 := B1.cell (i := 1) rfl
    have b2 := B1.cell (i := 2) rfl
    have b3 := B1.cell (i := 3) rfl
    have hBl := B1.lt
    dsimp only at hsx ⊢
    have HSX := hide hsx; clear hsx
    go_wp2_with fail
    obtain ⟨w2, hw2⟩ : ∃ w2, w2 = w1.alloc (.cells #[.int .i64 val, .int .i64 cnt, .slice XA recs.length xc] 42) := ⟨_, rfl⟩
    rw [← hw2]
    have hb2 : Below w1.heap.size w1 w2 := by rw [hw2]; exact bl_alloc (Below.refl _ _) _
    have X2 : Blk w2 w1.heap.size 42 #[.int .i64 val, .int .i64 cnt, .slice XA recs.length xc] := by rw [hw2]; exact Blk.new _ _ _
    have HW2 := hide hw2; clear hw2
    have HB2 := bl_step HB1 hb2
    have R2 := rread_any op vs pts hrs HA hc bs BA bc w2 ((HH.out.below HB2).more HB2.size) ((HS.out.below HB2).more HB2.size) HBC.out (by omega) HBY.out
    rw [HR.out] at R2
    refine R2.mono ?_
    clear R2
    rintro e w3 ⟨YA, yc, rfl, hb3, hsy⟩
    have HSY := hide hsy; clear hsy
    have HB3 := bl_step HB2 hb3
    have X3 := X2.step hb3
    clear b0 b1 b2 b3
    dsimp only
    go_wp2_with fail
    obtain ⟨w4, hw4⟩ : ∃ w4, w4 = w3.alloc (.cells #[.int .i64 val, .int .i64 cnt, .slice YA recs.length yc] 45) := ⟨_, rfl⟩
    rw [← hw4]
    have hb4 : Below w3.heap.size w3 w4 := by rw [hw4]; exact bl_alloc (Below.refl _ _) _
    have Y4 : Blk w4 w3.heap.size 45 #[.int .i64 val, .int .i64 cnt, .slice YA recs.length yc] := by rw [hw4]; exact Blk.new _ _ _
    have HW4 := hide hw4; clear hw4
    have X4 := X3.step hb4
    have HB4 := bl_step HB3 hb4
    refine (alive18 w4).mono ?_
    rintro e w5 ⟨rfl, hb5⟩
    have X5 := X4.step hb5
    have Y5 := Y4.step hb5
    have HB5 := bl_step HB4 hb5
    have x0 := X5.cell (i := 0) rfl
    have x1 := X5.cell (i := 1) rfl
    have x2 := X5.cell (i := 2) rfl
    have y0 := Y5.cell (i := 0) rfl
    have y1 := Y5.cell (i := 1) rfl
    have y2 := Y5.cell (i := 2) rfl
    have hX : Sl w5 w5.heap.size XA (recCs recs) := ((((HSX.out.below hb2).below (hb3.mono hb2.size)).below (hb4.mono (Nat.le_trans hb2.size hb3.size))).below (hb5.mono (Nat.le_trans (Nat.le_trans hb2.size hb3.size) hb4.size))).more (Nat.le_trans (Nat.le_trans (Nat.le_trans hb2.size hb3.size) hb4.size) hb5.size)
    have hY : Sl w5 w5.heap.size YA (recCs recs) := ((HSY.out.below hb4).below (hb5.mono hb4.size)).more (Nat.le_trans hb4.size hb5.size)
    have S := same13_true recs XA YA xc yc w5 hX hY (by unfold maxLen; omega)
    have HSA := hide S
    clear S hX hY
    go_wp2_with fail
    refine HSA.out.mono ?_
    rintro e w6 ⟨rfl, hb6⟩
    go_wp2
    go_ret
    exact ⟨rfl, bl_step HB5 hb6⟩
end
end Go.Proofs.Ytcfbkabiapaobaa
