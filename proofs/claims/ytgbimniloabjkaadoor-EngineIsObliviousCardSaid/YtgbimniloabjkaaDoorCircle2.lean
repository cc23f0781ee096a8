/- circle: the sign of the lifted determinant, and the side. -/
import Derived.Test.YtgbimniloabjkaaDoorCircle
namespace Go.Proofs.YtgbimniloabjkaaDoor
open Go.RowKit

theorem w5e : (18446744073709551616 : Int) ^ 5 = 2135987035920910082395021706169552114602704522356652769947041607822219725780640550022962086936576 := by decide +kernel
theorem normD_bd {x y : Int} (h1 : -18446744073709551615 ≤ x ∧ x ≤ 18446744073709551615) (h2 : -18446744073709551615 ≤ y ∧ y ≤ 18446744073709551615) : -680564733841876926852962238568698216450 ≤ normD x y ∧ normD x y ≤ 680564733841876926852962238568698216450 := by
  have a := prod_bd h1.1 h1.2 h1.1 h1.2
  have b := prod_bd h2.1 h2.2 h2.1 h2.2
  unfold normD
  omega
theorem fits5_circle {a b c d : Pt} (ha : PJ a) (hb : PJ b) (hc : PJ c) (hd : PJ d) : Fits 5 (circleD a b c d) := by
  have a1 := sub_bd ha.1 hd.1
  have a2 := sub_bd ha.2 hd.2
  have b1 := sub_bd hb.1 hd.1
  have b2 := sub_bd hb.2 hd.2
  have c1 := sub_bd hc.1 hd.1
  have c2 := sub_bd hc.2 hd.2
  have p := prod_bd (normD_bd a1 a2).1 (normD_bd a1 a2).2 (crossD_bd b1 b2 c1 c2).1 (crossD_bd b1 b2 c1 c2).2
  have q := prod_bd (normD_bd b1 b2).1 (normD_bd b1 b2).2 (crossD_bd c1 c2 a1 a2).1 (crossD_bd c1 c2 a1 a2).2
  have r := prod_bd (normD_bd c1 c2).1 (normD_bd c1 c2).2 (crossD_bd a1 a2 b1 b2).1 (crossD_bd a1 a2 b1 b2).2
  unfold Fits circleD
  rw [w5e]
  omega
theorem sign_bd (x : Int) : x.sign = -1 ∨ x.sign = 0 ∨ x.sign = 1 := by
  rcases Int.lt_trichotomy x 0 with h | h | h
  · exact .inl (Int.sign_eq_neg_one_of_neg h)
  · subst h; exact .inr (.inl rfl)
  · exact .inr (.inr (Int.sign_eq_one_of_pos h))
theorem sign_mul_wrap (x y : Int) : IntKind.i64.wrap (x.sign * y.sign) = x.sign * y.sign := by
  rcases sign_bd x with h | h | h <;> rcases sign_bd y with h' | h' | h' <;> rw [h, h'] <;> decide

set_option maxRecDepth 100000 in
set_option maxHeartbeats 2000000 in
theorem csign_any (a b c d : Pt) (ha : PJ a) (hb : PJ b) (hc : PJ c) (hd : PJ d) (w : World) (hw : MW w) :
    Calls Tryd.prog 48 #[.agg #[.int .i64 a.1, .int .i64 a.2], .agg #[.int .i64 b.1, .int .i64 b.2], .agg #[.int .i64 c.1, .int .i64 c.2], .agg #[.int .i64 d.1, .int .i64 d.2]] w fun e w' => e = .returned (.int .i64 (circleD a b c d).sign) ∧ Below w.heap.size w w' := by
  obtain ⟨w0, hw0⟩ : ∃ w0, w0 = (((w.alloc (.cells #[.int .i64 a.1, .int .i64 a.2] 51)).alloc (.cells #[.int .i64 b.1, .int .i64 b.2] 51)).alloc (.cells #[.int .i64 c.1, .int .i64 c.2] 51)).alloc (.cells #[.int .i64 d.1, .int .i64 d.2] 51) := ⟨_, rfl⟩
  have hb0 : Below w.heap.size w w0 := by rw [hw0]; exact bl_alloc (bl_alloc (bl_alloc (bl_alloc (Below.refl _ _) _) _) _) _
  have HV := hide (cval_any a b c d ha hb hc hd w0)
  have HF := hide (fits5_circle ha hb hc hd)
  have HW := hide (hw.step hb0)
  clear ha hb hc hd hw
  go_enter Tryd.func48, Tryd.ntmps48
  go_wp2_with fail
  rw [← hw0]
  have HW0 := hide hw0
  clear hw0
  refine HV.out.mono ?_
  rintro e w1 ⟨A1, c1, rfl, hb1, hs1⟩
  have hw1 := HW.out.step hb1
  have HS := hide (lsign_any 5 _ HF.out (by omega) (by omega) A1 c1 w1 hs1 hw1.1 hw1.2)
  clear hs1 hw1
  go_wp2_with fail
  refine HS.out.mono ?_
  rintro e w2 ⟨rfl, hb2⟩
  go_wp2
  go_ret
  exact ⟨rfl, bl_step (bl_step hb0 hb1) hb2⟩

set_option maxRecDepth 100000 in
set_option maxHeartbeats 4000000 in
theorem cside_any (a b c d : Pt) (ha : PJ a) (hb : PJ b) (hc : PJ c) (hd : PJ d) (w : World) (hw : MW w) :
    Calls Tryd.prog 121 #[.agg #[.int .i64 a.1, .int .i64 a.2], .agg #[.int .i64 b.1, .int .i64 b.2], .agg #[.int .i64 c.1, .int .i64 c.2], .agg #[.int .i64 d.1, .int .i64 d.2]] w fun e w' => e = .returned (.int .i64 ((circleD a b c d).sign * (orientD a b c).sign)) ∧ Below w.heap.size w w' := by
  obtain ⟨w0, hw0⟩ : ∃ w0, w0 = (((w.alloc (.cells #[.int .i64 a.1, .int .i64 a.2] 51)).alloc (.cells #[.int .i64 b.1, .int .i64 b.2] 51)).alloc (.cells #[.int .i64 c.1, .int .i64 c.2] 51)).alloc (.cells #[.int .i64 d.1, .int .i64 d.2] 51) := ⟨_, rfl⟩
  have hb0 : Below w.heap.size w w0 := by rw [hw0]; exact bl_alloc (bl_alloc (bl_alloc (bl_alloc (Below.refl _ _) _) _) _) _
  have PA : Blk w0 w.heap.size 51 #[.int .i64 a.1, .int .i64 a.2] := by rw [hw0]; exact (((Blk.new _ _ _).alloc _).alloc _).alloc _
  have PB : Blk w0 (w.heap.size + 1) 51 #[.int .i64 b.1, .int .i64 b.2] := by rw [hw0]; exact ((Blk.new2 _ _ _ _).alloc _).alloc _
  have PC : Blk w0 (w.heap.size + 1 + 1) 51 #[.int .i64 c.1, .int .i64 c.2] := by
    rw [hw0]
    have h := Blk.new ((w.alloc (.cells #[.int .i64 a.1, .int .i64 a.2] 51)).alloc (.cells #[.int .i64 b.1, .int .i64 b.2] 51)) 51 #[.int .i64 c.1, .int .i64 c.2]
    have h2 := h.alloc (.cells #[.int .i64 d.1, .int .i64 d.2] 51)
    simpa using h2
  have PD4 : Blk w0 (w.heap.size + 1 + 1 + 1) 51 #[.int .i64 d.1, .int .i64 d.2] := by
    rw [hw0]
    have h := Blk.new (((w.alloc (.cells #[.int .i64 a.1, .int .i64 a.2] 51)).alloc (.cells #[.int .i64 b.1, .int .i64 b.2] 51)).alloc (.cells #[.int .i64 c.1, .int .i64 c.2] 51)) 51 #[.int .i64 d.1, .int .i64 d.2]
    simpa using h
  have h00 : Held4P w0 w.heap.size (w.heap.size + 1) (w.heap.size + 1 + 1) (w.heap.size + 1 + 1 + 1) a.1 a.2 b.1 b.2 c.1 c.2 d.1 d.2 w0 := ⟨Below.refl _ _, PA.cell (i := 0) rfl, PA.cell (i := 1) rfl, PB.cell (i := 0) rfl, PB.cell (i := 1) rfl, PC.cell (i := 0) rfl, PC.cell (i := 1) rfl, PD4.cell (i := 0) rfl, PD4.cell (i := 1) rfl⟩
  have HC : Hid (∀ wk, Below w0.heap.size w0 wk → Calls Tryd.prog 48 #[.agg #[.int .i64 a.1, .int .i64 a.2], .agg #[.int .i64 b.1, .int .i64 b.2], .agg #[.int .i64 c.1, .int .i64 c.2], .agg #[.int .i64 d.1, .int .i64 d.2]] wk fun e w' => e = .returned (.int .i64 (circleD a b c d).sign) ∧ Below wk.heap.size wk w') := hide fun wk hk => csign_any a b c d ha hb hc hd wk ((hw.step hb0).step hk)
  have HO : Hid (∀ wk, Below w0.heap.size w0 wk → Calls Tryd.prog 46 #[.agg #[.int .i64 a.1, .int .i64 a.2], .agg #[.int .i64 b.1, .int .i64 b.2], .agg #[.int .i64 c.1, .int .i64 c.2]] wk fun e w' => e = .returned (.int .i64 (orientD a b c).sign) ∧ Below wk.heap.size wk w') := hide fun wk hk => osign_any a b c ha hb hc wk ((hw.step hb0).step hk)
  have hwr := sign_mul_wrap (circleD a b c d) (orientD a b c)
  clear ha hb hc hd hw PA PB PC PD4
  generalize hcs : (circleD a b c d).sign = cs at *
  generalize hos : (orientD a b c).sign = os at *
  obtain ⟨a, a'⟩ := a
  obtain ⟨b, b'⟩ := b
  obtain ⟨c, c'⟩ := c
  obtain ⟨d, d'⟩ := d
  dsimp only at *
  clear hcs hos
  have hd0 := h00.keep (bl_drew (Below.refl _ _))
  have hbd := bl_drew (Below.refl w0.heap.size w0)
  go_enter Tryd.func121, Tryd.ntmps121
  go_wp2
  rw [← hw0]
  have HW0 := hide hw0
  clear hw0
  go_region_held3 (fun w' => Below w0.heap.size w0 w' ∧ w'.cell? ⟨w.heap.size, 0, none⟩ = some (.int .i64 a) ∧ w'.cell? ⟨w.heap.size, 1, none⟩ = some (.int .i64 a') ∧ w'.cell? ⟨w.heap.size + 1, 0, none⟩ = some (.int .i64 b) ∧ w'.cell? ⟨w.heap.size + 1, 1, none⟩ = some (.int .i64 b') ∧ w'.cell? ⟨w.heap.size + 1 + 1, 0, none⟩ = some (.int .i64 c) ∧ w'.cell? ⟨w.heap.size + 1 + 1, 1, none⟩ = some (.int .i64 c') ∧ w'.cell? ⟨w.heap.size + 1 + 1 + 1, 0, none⟩ = some (.int .i64 d) ∧ w'.cell? ⟨w.heap.size + 1 + 1 + 1, 1, none⟩ = some (.int .i64 d'))
    (first | with_reducible exact hd0 | with_reducible exact h00 | with_reducible exact Held4P.keep (by assumption) (by assumption) | with_reducible exact hd0.keep (by assumption))
    (first
      | (go_at_call 48; ((with_reducible refine (HC.out _ (by first | with_reducible exact hbd | with_reducible exact bl_step hbd hb2)).mono ?_); rintro e w' ⟨rfl, hb1⟩))
      | (go_at_call 46; ((with_reducible refine (HO.out _ (by first | with_reducible exact hbd | with_reducible exact bl_step hbd hb1)).mono ?_); rintro e w' ⟨rfl, hb2⟩)))
  all_goals
    go_wp2
    go_ret
    first | exact ⟨rfl, bl_step (bl_step (bl_drew hb0) hb1) hb2⟩ | exact ⟨rfl, bl_step (bl_step (bl_drew hb0) hb2) hb1⟩
end Go.Proofs.YtgbimniloabjkaaDoor
