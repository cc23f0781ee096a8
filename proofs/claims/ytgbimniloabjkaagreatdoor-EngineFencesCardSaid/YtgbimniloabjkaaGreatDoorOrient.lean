/- orient: the orientation of three points is the sign of their determinant. -/
import Derived.Test.YtgbimniloabjkaaGreatDoorDiff2
namespace Go.Proofs.YtgbimniloabjkaaGreatDoor
open Go.RowKit

abbrev Pt := Int × Int
def ptV (p : Pt) : Value := .agg #[.int .i64 p.1, .int .i64 p.2]
def PJ (p : Pt) : Prop := J64 p.1 ∧ J64 p.2
def crossD (ux uy vx vy : Int) : Int := ux * vy - uy * vx
def orientD (a b c : Pt) : Int := crossD (b.1 - a.1) (b.2 - a.2) (c.1 - a.1) (c.2 - a.2)
theorem w2 : (18446744073709551616 : Int) ^ 2 = 340282366920938463463374607431768211456 := by decide +kernel
theorem w3e : (18446744073709551616 : Int) ^ 3 = 6277101735386680763835789423207666416102355444464034512896 := by decide +kernel
theorem fits2_sub {a b : Int} (ha : J64 a) (hb : J64 b) : Fits 2 (a - b) := by
  unfold J64 at ha hb; unfold Fits; rw [w2]; omega
theorem prod_bd {a b M N : Int} (h1 : -M ≤ a) (h2 : a ≤ M) (h3 : -N ≤ b) (h4 : b ≤ N) : -(M * N) ≤ a * b ∧ a * b ≤ M * N := by
  have e1 : 0 ≤ (M - a) * (N + b) := Int.mul_nonneg (by omega) (by omega)
  have e2 : 0 ≤ (M + a) * (N - b) := Int.mul_nonneg (by omega) (by omega)
  have e3 : 0 ≤ (M - a) * (N - b) := Int.mul_nonneg (by omega) (by omega)
  have e4 : 0 ≤ (M + a) * (N + b) := Int.mul_nonneg (by omega) (by omega)
  rw [Int.sub_mul, Int.mul_add, Int.mul_add] at e1
  rw [Int.add_mul, Int.mul_sub, Int.mul_sub] at e2
  rw [Int.sub_mul, Int.mul_sub, Int.mul_sub] at e3
  rw [Int.add_mul, Int.mul_add, Int.mul_add] at e4
  omega
theorem crossD_bd {ux uy vx vy : Int} (h1 : -18446744073709551615 ≤ ux ∧ ux ≤ 18446744073709551615) (h2 : -18446744073709551615 ≤ uy ∧ uy ≤ 18446744073709551615) (h3 : -18446744073709551615 ≤ vx ∧ vx ≤ 18446744073709551615) (h4 : -18446744073709551615 ≤ vy ∧ vy ≤ 18446744073709551615) :
    -680564733841876926852962238568698216450 ≤ crossD ux uy vx vy ∧ crossD ux uy vx vy ≤ 680564733841876926852962238568698216450 := by
  have a := prod_bd h1.1 h1.2 h4.1 h4.2
  have b := prod_bd h2.1 h2.2 h3.1 h3.2
  unfold crossD
  omega
theorem sub_bd {a b : Int} (ha : J64 a) (hb : J64 b) : -18446744073709551615 ≤ a - b ∧ a - b ≤ 18446744073709551615 := by unfold J64 at ha hb; omega
theorem fits3_orient {a b c : Pt} (ha : PJ a) (hb : PJ b) (hc : PJ c) : Fits 3 (orientD a b c) := by
  have h := crossD_bd (sub_bd hb.1 ha.1) (sub_bd hb.2 ha.2) (sub_bd hc.1 ha.1) (sub_bd hc.2 ha.2)
  unfold Fits orientD; rw [w3e]; omega

/-- a region holds what three boxed points hold -/
def Held3P (w0 : World) (b1 b2 b3 : Nat) (x1 y1 x2 y2 x3 y3 : Int) (w' : World) : Prop :=
  Below w0.heap.size w0 w' ∧ w'.cell? ⟨b1, 0, none⟩ = some (.int .i64 x1) ∧ w'.cell? ⟨b1, 1, none⟩ = some (.int .i64 y1) ∧ w'.cell? ⟨b2, 0, none⟩ = some (.int .i64 x2) ∧ w'.cell? ⟨b2, 1, none⟩ = some (.int .i64 y2) ∧ w'.cell? ⟨b3, 0, none⟩ = some (.int .i64 x3) ∧ w'.cell? ⟨b3, 1, none⟩ = some (.int .i64 y3)
theorem Held3P.keep {w0 wk w' : World} {b1 b2 b3 : Nat} {x1 y1 x2 y2 x3 y3 : Int} (h : Held3P w0 b1 b2 b3 x1 y1 x2 y2 x3 y3 wk) (hb : Below wk.heap.size wk w') : Held3P w0 b1 b2 b3 x1 y1 x2 y2 x3 y3 w' := by
  have on : ∀ {b o : Nat} {v : Value}, wk.cell? ⟨b, o, none⟩ = some v → w'.cell? ⟨b, o, none⟩ = some v := fun h => (hb.cell (p := ⟨_, _, none⟩) (cell_lt h)).trans h
  obtain ⟨h0, h1, h2, h3, h4, h5, h6⟩ := h
  exact ⟨bl_step h0 hb, on h1, on h2, on h3, on h4, on h5, on h6⟩
set_option maxRecDepth 100000 in
set_option maxHeartbeats 4000000 in
theorem oval_any (a b c : Pt) (ha : PJ a) (hb : PJ b) (hc : PJ c) (w : World) :
    Calls Tryz.prog 79 #[.agg #[.int .i64 a.1, .int .i64 a.2], .agg #[.int .i64 b.1, .int .i64 b.2], .agg #[.int .i64 c.1, .int .i64 c.2]] w (GaveN 3 (orientD a b c) w) := by
  obtain ⟨w0, hw0⟩ : ∃ w0, w0 = ((w.alloc (.cells #[.int .i64 a.1, .int .i64 a.2] 44)).alloc (.cells #[.int .i64 b.1, .int .i64 b.2] 44)).alloc (.cells #[.int .i64 c.1, .int .i64 c.2] 44) := ⟨_, rfl⟩
  have hb0 : Below w.heap.size w w0 := by rw [hw0]; exact bl_alloc (bl_alloc (bl_alloc (Below.refl _ _) _) _) _
  have PA : Blk w0 w.heap.size 44 #[.int .i64 a.1, .int .i64 a.2] := by rw [hw0]; exact ((Blk.new _ _ _).alloc _).alloc _
  have PB : Blk w0 (w.heap.size + 1) 44 #[.int .i64 b.1, .int .i64 b.2] := by rw [hw0]; exact (Blk.new2 _ _ _ _).alloc _
  have PC : Blk w0 (w.heap.size + 1 + 1) 44 #[.int .i64 c.1, .int .i64 c.2] := by
    rw [hw0]
    have h := Blk.new ((w.alloc (.cells #[.int .i64 a.1, .int .i64 a.2] 44)).alloc (.cells #[.int .i64 b.1, .int .i64 b.2] 44)) 44 #[.int .i64 c.1, .int .i64 c.2]
    simpa using h
  have HB1 := hide (fun wk => between_any a.1 a.2 b.1 b.2 ha.1 ha.2 hb.1 hb.2 wk)
  have HB2 := hide (fun wk => between_any a.1 a.2 c.1 c.2 ha.1 ha.2 hc.1 hc.2 wk)
  have HCR : Hid (∀ (A1 A2 A3 A4 : Option Addr) (c1 c2 c3 c4 : Nat) (wk : World), Sl wk wk.heap.size A1 (uCs (lims 2 (b.1 - a.1))) → Sl wk wk.heap.size A2 (uCs (lims 2 (b.2 - a.2))) → Sl wk wk.heap.size A3 (uCs (lims 2 (c.1 - a.1))) → Sl wk wk.heap.size A4 (uCs (lims 2 (c.2 - a.2))) →
      Calls Tryz.prog 94 #[.agg #[.slice A1 2 c1, .slice A2 2 c2], .agg #[.slice A3 2 c3, .slice A4 2 c4]] wk (GaveN 4 (orientD a b c) wk)) :=
    hide fun A1 A2 A3 A4 c1 c2 c3 c4 wk h1 h2 h3 h4 => cross_any _ _ _ _ (fits2_sub hb.1 ha.1) (fits2_sub hb.2 ha.2) (fits2_sub hc.1 ha.1) (fits2_sub hc.2 ha.2) A1 A2 A3 A4 c1 c2 c3 c4 wk h1 h2 h3 h4
  have HEX : Hid (∀ (A : Option Addr) (k : Nat) (wk : World), Sl wk wk.heap.size A (uCs (lims 4 (orientD a b c))) → Calls Tryz.prog 93 #[.slice A 4 k, .int .i64 3] wk (GaveN 3 (orientD a b c) wk)) :=
    hide fun A k wk h => callsN (extend_any 4 3 _ (.inr (by omega)) (by omega) (by omega) (by omega) (by omega) A k wk h)
  have a0 := PA.cell (i := 0) rfl
  have a1 := PA.cell (i := 1) rfl
  have b0 := PB.cell (i := 0) rfl
  have b1 := PB.cell (i := 1) rfl
  have c0 := PC.cell (i := 0) rfl
  have c1 := PC.cell (i := 1) rfl
  clear ha hb hc
  obtain ⟨a, a'⟩ := a
  obtain ⟨b, b'⟩ := b
  obtain ⟨c, c'⟩ := c
  dsimp only at *
  have h00 : Held3P w0 w.heap.size (w.heap.size + 1) (w.heap.size + 1 + 1) a a' b b' c c' w0 := ⟨Below.refl _ _, a0, a1, b0, b1, c0, c1⟩
  have hd0 := h00.keep (bl_drew (Below.refl _ _))
  go_enter Tryz.func79, Tryz.ntmps79
  go_wp2
  rw [← hw0]
  have HW0 := hide hw0
  clear hw0
  go_region_held3 (fun w' => Below w0.heap.size w0 w' ∧ w'.cell? ⟨w.heap.size, 0, none⟩ = some (.int .i64 a) ∧ w'.cell? ⟨w.heap.size, 1, none⟩ = some (.int .i64 a') ∧ w'.cell? ⟨w.heap.size + 1, 0, none⟩ = some (.int .i64 b) ∧ w'.cell? ⟨w.heap.size + 1, 1, none⟩ = some (.int .i64 b') ∧ w'.cell? ⟨w.heap.size + 1 + 1, 0, none⟩ = some (.int .i64 c) ∧ w'.cell? ⟨w.heap.size + 1 + 1, 1, none⟩ = some (.int .i64 c'))
    (first | exact hd0 | exact h00 | exact Held3P.keep (by assumption) (by assumption) | exact hd0.keep (by assumption))
    (first
      | (go_at_call 95; ((with_reducible refine (HB1.out _).mono ?_); rintro e w' ⟨A1, k1, A2, k2, rfl, hb1, hs1, hs2⟩; unfold vecVal))
      | (go_at_call 95; ((with_reducible refine (HB2.out _).mono ?_); rintro e w' ⟨A3, k3, A4, k4, rfl, hb2, hs3, hs4⟩; unfold vecVal))
      | (go_at_call 94; ((with_reducible refine (HCR.out _ _ _ _ _ _ _ _ _ ((hs1.below hb2).more hb2.size) ((hs2.below hb2).more hb2.size) hs3 hs4).mono ?_); rintro e w' ⟨A5, k5, rfl, hb3, hs5⟩))
      | (go_at_call 93; ((with_reducible refine (HEX.out _ _ _ hs5).mono ?_); rintro e w' ⟨A6, k6, rfl, hb4, hs6⟩)))
  all_goals
    go_wp2
    go_ret
    exact ⟨A6, k6, rfl, bl_step (bl_step (bl_step (bl_step (bl_drew hb0) hb1) hb2) hb3) hb4, hs6⟩
theorem MWords.below {w w' : World} {B : Nat} (h : MWords w) (hb : Below B w w') (hg : 0 < B) : MWords w' :=
  ⟨(hb.cell (p := ⟨0, 0, none⟩) hg).trans h.1, (hb.cell (p := ⟨0, 1, none⟩) hg).trans h.2⟩
/-- the table lies there -/
def MW (w : World) : Prop := MWords w ∧ 0 < w.heap.size
theorem MW.step {w w' : World} (h : MW w) (hb : Below w.heap.size w w') : MW w' := ⟨h.1.below hb h.2, Nat.lt_of_lt_of_le h.2 hb.size⟩
set_option maxRecDepth 100000 in
set_option maxHeartbeats 2000000 in
theorem osign_any (a b c : Pt) (ha : PJ a) (hb : PJ b) (hc : PJ c) (w : World) (hw : MW w) :
    Calls Tryz.prog 49 #[.agg #[.int .i64 a.1, .int .i64 a.2], .agg #[.int .i64 b.1, .int .i64 b.2], .agg #[.int .i64 c.1, .int .i64 c.2]] w fun e w' => e = .returned (.int .i64 (orientD a b c).sign) ∧ Below w.heap.size w w' := by
  obtain ⟨w0, hw0⟩ : ∃ w0, w0 = ((w.alloc (.cells #[.int .i64 a.1, .int .i64 a.2] 44)).alloc (.cells #[.int .i64 b.1, .int .i64 b.2] 44)).alloc (.cells #[.int .i64 c.1, .int .i64 c.2] 44) := ⟨_, rfl⟩
  have hb0 : Below w.heap.size w w0 := by rw [hw0]; exact bl_alloc (bl_alloc (bl_alloc (Below.refl _ _) _) _) _
  have HV := hide (oval_any a b c ha hb hc w0)
  have HF := hide (fits3_orient ha hb hc)
  have HW := hide (hw.step hb0)
  clear ha hb hc hw
  go_enter Tryz.func49, Tryz.ntmps49
  go_wp2_with fail
  rw [← hw0]
  have HW0 := hide hw0
  clear hw0
  refine HV.out.mono ?_
  rintro e w1 ⟨A1, c1, rfl, hb1, hs1⟩
  have hw1 := HW.out.step hb1
  have HS := hide (lsign_any 3 _ HF.out (by omega) (by omega) A1 c1 w1 hs1 hw1.1 hw1.2)
  clear hs1 hw1
  go_wp2_with fail
  refine HS.out.mono ?_
  rintro e w2 ⟨rfl, hb2⟩
  go_wp2
  go_ret
  exact ⟨rfl, bl_step (bl_step hb0 hb1) hb2⟩
end Go.Proofs.YtgbimniloabjkaaGreatDoor
