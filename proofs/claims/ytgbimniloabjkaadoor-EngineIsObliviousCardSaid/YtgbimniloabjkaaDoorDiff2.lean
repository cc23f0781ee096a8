/- diff: the products of vectors. -/
import Derived.Test.YtgbimniloabjkaaDoorDiff
namespace Go.Proofs.YtgbimniloabjkaaDoor
open Go.RowKit

theorem keepC4 {w0 wk w' : World} {b1 o1 b2 o2 b3 o3 b4 o4 : Nat} {v1 v2 v3 v4 : Value} (hb : Below wk.heap.size wk w')
    (h : Below w0.heap.size w0 wk ∧ wk.cell? ⟨b1, o1, none⟩ = some v1 ∧ wk.cell? ⟨b2, o2, none⟩ = some v2 ∧ wk.cell? ⟨b3, o3, none⟩ = some v3 ∧ wk.cell? ⟨b4, o4, none⟩ = some v4) :
    Below w0.heap.size w0 w' ∧ w'.cell? ⟨b1, o1, none⟩ = some v1 ∧ w'.cell? ⟨b2, o2, none⟩ = some v2 ∧ w'.cell? ⟨b3, o3, none⟩ = some v3 ∧ w'.cell? ⟨b4, o4, none⟩ = some v4 :=
  have on : ∀ {b o : Nat} {v : Value}, wk.cell? ⟨b, o, none⟩ = some v → w'.cell? ⟨b, o, none⟩ = some v := fun h => (hb.cell (p := ⟨_, _, none⟩) (cell_lt h)).trans h
  ⟨bl_step h.1 hb, on h.2.1, on h.2.2.1, on h.2.2.2.1, on h.2.2.2.2⟩
set_option maxRecDepth 100000 in
set_option maxHeartbeats 1000000 in
theorem turned_any (A A' : Option Addr) (c c' : Nat) (w : World) : Calls Tryd.prog 84 #[vecVal A c A' c'] w fun e w' => e = .returned (vecVal A' c' A c) ∧ Below w.heap.size w w' := by
  unfold vecVal
  obtain ⟨w0, hw0⟩ : ∃ w0, w0 = (w.alloc (.cells #[.slice A 2 c, .slice A' 2 c'] 140)).alloc (.cells #[.slice A' 2 c', .slice A 2 c] 140) := ⟨_, rfl⟩
  have hb0 : Below w.heap.size w w0 := by rw [hw0]; exact bl_alloc (bl_alloc (Below.refl _ _) _) _
  have R0 : Blk w0 (w.heap.size + 1) 140 #[.slice A' 2 c', .slice A 2 c] := by rw [hw0]; exact Blk.new2 _ _ _ _
  have e0 := R0.cell (i := 0) rfl
  have e1 := R0.cell (i := 1) rfl
  go_enter Tryd.func84, Tryd.ntmps84
  go_wp2
  rw [← hw0]
  exact bodyPost_ret (v := .agg #[.slice A' 2 c', .slice A 2 c]) (by simp [results, Tryd.results84, go_sem, e0, e1]) rfl ⟨rfl, hb0⟩
set_option maxRecDepth 100000 in
set_option maxHeartbeats 1000000 in
theorem same_any (A A' : Option Addr) (c c' : Nat) (w : World) : Calls Tryd.prog 94 #[vecVal A c A' c'] w fun e w' => e = .returned (vecVal A c A' c') ∧ Below w.heap.size w w' := by
  unfold vecVal
  obtain ⟨w0, hw0⟩ : ∃ w0, w0 = (w.alloc (.cells #[.slice A 2 c, .slice A' 2 c'] 140)).alloc (.cells #[.slice A 2 c, .slice A' 2 c'] 140) := ⟨_, rfl⟩
  have hb0 : Below w.heap.size w w0 := by rw [hw0]; exact bl_alloc (bl_alloc (Below.refl _ _) _) _
  have R0 : Blk w0 (w.heap.size + 1) 140 #[.slice A 2 c, .slice A' 2 c'] := by rw [hw0]; exact Blk.new2 _ _ _ _
  have e0 := R0.cell (i := 0) rfl
  have e1 := R0.cell (i := 1) rfl
  go_enter Tryd.func94, Tryd.ntmps94
  go_wp2
  rw [← hw0]
  exact bodyPost_ret (v := .agg #[.slice A 2 c, .slice A' 2 c']) (by simp [results, Tryd.results94, go_sem, e0, e1]) rfl ⟨rfl, hb0⟩
set_option maxRecDepth 100000 in
set_option maxHeartbeats 1000000 in
theorem dis_true (A1 A2 A3 A4 : Option Addr) (c1 c2 c3 c4 : Nat) (g : Nat) (w : World) (hb : Blk w g 140 #[.slice A1 2 c1, .slice A2 2 c2, .slice A3 2 c3, .slice A4 2 c4]) :
    Calls Tryd.prog 92 #[.slice (some ⟨g, 0, none⟩) 2 2] w fun e w' => e = .returned (.bool true) ∧ Below w.heap.size w w' := by
  have HB := hide hb
  go_enter Tryd.func92, Tryd.ntmps92
  go_wp2
  go_loopw [7] (fun i wr => ∃ k : Nat, k ≤ 2 ∧ i = .int .i64 k ∧ Below w.heap.size w wr)
    (fun i _ => 2 - (intOf i).toNat)
  case atStart => exact ⟨0, by omega, rfl, Below.refl _ _⟩
  case round =>
    obtain ⟨k, hk, rfl, hbr⟩ := hrel
    have Br := HB.out.step hbr
    by_cases h0 : k = 0
    · subst h0
      have c0 := Br.cell (i := 0) rfl
      have c1 := Br.cell (i := 1) rfl
      go_wp2
      go_roundw
      case rel => exact ⟨1, by omega, rfl, bl_alloc hbr _⟩
      case measure => simp [intOf]
    · by_cases h1 : k = 1
      · subst h1
        have c0 := Br.cell (i := 2) rfl
        have c1 := Br.cell (i := 3) rfl
        go_wp2
        go_roundw
        case rel => exact ⟨2, by omega, rfl, bl_alloc hbr _⟩
        case measure => simp [intOf]
      · obtain rfl : k = 2 := by omega
        go_wp2
        go_ret
        exact ⟨rfl, hbr⟩

set_option maxRecDepth 100000 in
set_option maxHeartbeats 1000000 in
theorem comb_cross (x y : Int) (A A' : Option Addr) (c c' : Nat) (w : World) (h1 : Sl w w.heap.size A (uCs (lims 4 x))) (h2 : Sl w w.heap.size A' (uCs (lims 4 y))) :
    Calls Tryd.prog 85 #[.slice A 4 c, .slice A' 4 c'] w (GaveN 4 (x - y) w) := by
  have HS := hide (callsN (lsub_any 4 x y (by omega) (by omega) A A' c c' w h1 h2))
  clear h1 h2
  go_enter Tryd.func85, Tryd.ntmps85
  go_wp2_with fail
  refine HS.out.mono ?_
  rintro e w1 ⟨A1, c1, rfl, hb1, h1⟩
  go_wp2
  go_ret
  exact ⟨A1, c1, rfl, hb1, h1⟩
set_option maxRecDepth 100000 in
set_option maxHeartbeats 4000000 in
theorem prod_cross (ux uy vx vy : Int) (fx : Fits 2 ux) (fy : Fits 2 uy) (gx : Fits 2 vx) (gy : Fits 2 vy) (A1 A2 A3 A4 : Option Addr) (c1 c2 c3 c4 : Nat) (w : World)
    (h1 : Sl w w.heap.size A1 (uCs (lims 2 ux))) (h2 : Sl w w.heap.size A2 (uCs (lims 2 uy))) (h3 : Sl w w.heap.size A3 (uCs (lims 2 vx))) (h4 : Sl w w.heap.size A4 (uCs (lims 2 vy))) :
    Calls Tryd.prog 83 #[.agg #[.slice A1 2 c1, .slice A2 2 c2], .agg #[.slice A3 2 c3, .slice A4 2 c4], .func (.func 84) #[] #[], .func (.func 85) #[] #[]] w (GaveN 4 (ux * vy - uy * vx) w) := by
  obtain ⟨w0, hw0⟩ : ∃ w0, w0 = ((w.alloc (.cells #[.slice A1 2 c1, .slice A2 2 c2] 140)).alloc (.cells #[.slice A3 2 c3, .slice A4 2 c4] 140)).alloc (.cells #[.slice A1 2 c1, .slice A2 2 c2, .slice A3 2 c3, .slice A4 2 c4] 140) := ⟨_, rfl⟩
  have hb0 : Below w.heap.size w w0 := by rw [hw0]; exact bl_alloc (bl_alloc (bl_alloc (Below.refl _ _) _) _) _
  have U0 : Blk w0 w.heap.size 140 #[.slice A1 2 c1, .slice A2 2 c2] := by rw [hw0]; exact ((Blk.new _ _ _).alloc _).alloc _
  have V0 : Blk w0 (w.heap.size + 1) 140 #[.slice A3 2 c3, .slice A4 2 c4] := by rw [hw0]; exact (Blk.new2 _ _ _ _).alloc _
  have S0 : Blk w0 (w.heap.size + 1 + 1) 140 #[.slice A1 2 c1, .slice A2 2 c2, .slice A3 2 c3, .slice A4 2 c4] := by
    rw [hw0]
    have h := Blk.new ((w.alloc (.cells #[.slice A1 2 c1, .slice A2 2 c2] 140)).alloc (.cells #[.slice A3 2 c3, .slice A4 2 c4] 140)) 140 #[.slice A1 2 c1, .slice A2 2 c2, .slice A3 2 c3, .slice A4 2 c4]
    simpa using h
  have M1 : ∀ wk, Below w.heap.size w wk → Calls Tryd.prog 80 #[.slice A1 2 c1, .slice A4 2 c4] wk (GaveN 4 (ux * vy) wk) := fun wk hk => callsN (lmul_any 2 2 ux vy (by omega) (by omega) (by omega) fx gy A1 A4 c1 c4 wk ((h1.below hk).more hk.size) ((h4.below hk).more hk.size))
  have M2 : ∀ wk, Below w.heap.size w wk → Calls Tryd.prog 80 #[.slice A2 2 c2, .slice A3 2 c3] wk (GaveN 4 (uy * vx) wk) := fun wk hk => callsN (lmul_any 2 2 uy vx (by omega) (by omega) (by omega) fy gx A2 A3 c2 c3 wk ((h2.below hk).more hk.size) ((h3.below hk).more hk.size))
  have HIS := hide (dis_true A1 A2 A3 A4 c1 c2 c3 c4 _ w0 S0)
  have HM1 := hide M1; have HM2 := hide M2
  clear M1 M2 h1 h2 h3 h4 fx fy gx gy
  go_enter Tryd.func83, Tryd.ntmps83
  go_wp2_with fail
  rw [← hw0]
  have HW0 := hide hw0
  clear hw0
  refine HIS.out.mono ?_
  rintro e w1 ⟨rfl, hb1⟩
  have V1 := V0.step hb1
  have v0 := V1.cell (i := 0) rfl
  have v1 := V1.cell (i := 1) rfl
  have HAR : Hid (Calls Tryd.prog 84 #[.agg #[.slice A3 2 c3, .slice A4 2 c4]] w1 fun e w' => e = .returned (.agg #[.slice A4 2 c4, .slice A3 2 c3]) ∧ Below w1.heap.size w1 w') := hide (turned_any A3 A4 c3 c4 w1)
  go_wp2_with fail
  refine HAR.out.mono ?_
  rintro e w2 ⟨rfl, hb2⟩
  obtain ⟨w3, hw3⟩ : ∃ w3, w3 = w2.alloc (.cells #[.slice A4 2 c4, .slice A3 2 c3] 140) := ⟨_, rfl⟩
  have hb3 : Below w2.heap.size w2 w3 := by rw [hw3]; exact bl_alloc (Below.refl _ _) _
  have W3 : Blk w3 w2.heap.size 140 #[.slice A4 2 c4, .slice A3 2 c3] := by rw [hw3]; exact Blk.new _ _ _
  have U3 := ((U0.step hb1).step hb2).step hb3
  have HB3 := bl_step (bl_step (bl_step hb0 hb1) hb2) hb3
  clear v0 v1
  go_wp2
  rw [← hw3]
  have HW3 := hide hw3
  clear hw3
  have u0 := U3.cell (i := 0) rfl
  have u1 := U3.cell (i := 1) rfl
  have x0 := W3.cell (i := 0) rfl
  have x1 := W3.cell (i := 1) rfl
  have hS0 : (fun w' : World => Below w3.heap.size w3 w' ∧ w'.cell? ⟨w.heap.size, 0, none⟩ = some (.slice A1 2 c1) ∧ w'.cell? ⟨w.heap.size, 1, none⟩ = some (.slice A2 2 c2) ∧ w'.cell? ⟨w2.heap.size, 0, none⟩ = some (.slice A4 2 c4) ∧ w'.cell? ⟨w2.heap.size, 1, none⟩ = some (.slice A3 2 c3)) w3 := ⟨Below.refl _ _, u0, u1, x0, x1⟩
  have hSd : (fun w' : World => Below w3.heap.size w3 w' ∧ w'.cell? ⟨w.heap.size, 0, none⟩ = some (.slice A1 2 c1) ∧ w'.cell? ⟨w.heap.size, 1, none⟩ = some (.slice A2 2 c2) ∧ w'.cell? ⟨w2.heap.size, 0, none⟩ = some (.slice A4 2 c4) ∧ w'.cell? ⟨w2.heap.size, 1, none⟩ = some (.slice A3 2 c3)) w3.drew := keepC4 (bl_drew (Below.refl _ _)) hS0
  have N1 : Hid (∀ w', (Below w3.heap.size w3 w' ∧ w'.cell? ⟨w.heap.size, 0, none⟩ = some (.slice A1 2 c1) ∧ w'.cell? ⟨w.heap.size, 1, none⟩ = some (.slice A2 2 c2) ∧ w'.cell? ⟨w2.heap.size, 0, none⟩ = some (.slice A4 2 c4) ∧ w'.cell? ⟨w2.heap.size, 1, none⟩ = some (.slice A3 2 c3)) → Calls Tryd.prog 80 #[.slice A1 2 c1, .slice A4 2 c4] w' (GaveN 4 (ux * vy) w')) := hide fun wk h => HM1.out wk (bl_step HB3 h.1)
  have N2 : Hid (∀ w', (Below w3.heap.size w3 w' ∧ w'.cell? ⟨w.heap.size, 0, none⟩ = some (.slice A1 2 c1) ∧ w'.cell? ⟨w.heap.size, 1, none⟩ = some (.slice A2 2 c2) ∧ w'.cell? ⟨w2.heap.size, 0, none⟩ = some (.slice A4 2 c4) ∧ w'.cell? ⟨w2.heap.size, 1, none⟩ = some (.slice A3 2 c3)) → Calls Tryd.prog 80 #[.slice A2 2 c2, .slice A3 2 c3] w' (GaveN 4 (uy * vx) w')) := hide fun wk h => HM2.out wk (bl_step HB3 h.1)
  go_region_held3 (fun w' => Below w3.heap.size w3 w' ∧ w'.cell? ⟨w.heap.size, 0, none⟩ = some (.slice A1 2 c1) ∧ w'.cell? ⟨w.heap.size, 1, none⟩ = some (.slice A2 2 c2) ∧ w'.cell? ⟨w2.heap.size, 0, none⟩ = some (.slice A4 2 c4) ∧ w'.cell? ⟨w2.heap.size, 1, none⟩ = some (.slice A3 2 c3))
    (first | exact hSd | exact hS0 | exact keepC4 (by assumption) (by assumption) | exact keepC4 (by assumption) hSd)
    (first
      | (go_at_call 80; ((with_reducible refine (N1.out _ (by assumption)).mono ?_); rintro e w' ⟨A5, c5, rfl, hb4, hs4⟩))
      | (go_at_call 80; ((with_reducible refine (N1.out _ hSd).mono ?_); rintro e w' ⟨A5, c5, rfl, hb4, hs4⟩))
      | (go_at_call 80; ((with_reducible refine (N2.out _ (by assumption)).mono ?_); rintro e w' ⟨A6, c6, rfl, hb5, hs5⟩))
      | (go_at_call 85; ((with_reducible refine (comb_cross _ _ _ _ _ _ _ ((hs4.below hb5).more hb5.size) hs5).mono ?_); rintro e w' ⟨A7, c7, rfl, hb6, hs6⟩)))
  all_goals
    go_wp2
    go_ret
    exact ⟨A7, c7, rfl, bl_step (bl_step (bl_step (bl_drew HB3) hb4) hb5) hb6, hs6⟩
set_option maxRecDepth 100000 in
set_option maxHeartbeats 1000000 in
theorem cross_any (ux uy vx vy : Int) (fx : Fits 2 ux) (fy : Fits 2 uy) (gx : Fits 2 vx) (gy : Fits 2 vy) (A1 A2 A3 A4 : Option Addr) (c1 c2 c3 c4 : Nat) (w : World)
    (h1 : Sl w w.heap.size A1 (uCs (lims 2 ux))) (h2 : Sl w w.heap.size A2 (uCs (lims 2 uy))) (h3 : Sl w w.heap.size A3 (uCs (lims 2 vx))) (h4 : Sl w w.heap.size A4 (uCs (lims 2 vy))) :
    Calls Tryd.prog 75 #[.agg #[.slice A1 2 c1, .slice A2 2 c2], .agg #[.slice A3 2 c3, .slice A4 2 c4]] w (GaveN 4 (ux * vy - uy * vx) w) := by
  obtain ⟨w0, hw0⟩ : ∃ w0, w0 = (w.alloc (.cells #[.slice A1 2 c1, .slice A2 2 c2] 140)).alloc (.cells #[.slice A3 2 c3, .slice A4 2 c4] 140) := ⟨_, rfl⟩
  have hb0 : Below w.heap.size w w0 := by rw [hw0]; exact bl_alloc (bl_alloc (Below.refl _ _) _) _
  have hz := hb0.size
  have HP := hide (prod_cross ux uy vx vy fx fy gx gy A1 A2 A3 A4 c1 c2 c3 c4 w0 ((h1.below hb0).more hz) ((h2.below hb0).more hz) ((h3.below hb0).more hz) ((h4.below hb0).more hz))
  clear h1 h2 h3 h4 fx fy gx gy
  go_enter Tryd.func75, Tryd.ntmps75
  go_wp2_with fail
  rw [← hw0]
  have HW0 := hide hw0
  clear hw0
  refine HP.out.mono ?_
  rintro e w1 ⟨A5, c5, rfl, hb1, hs⟩
  go_wp2
  go_ret
  exact ⟨A5, c5, rfl, bl_step hb0 hb1, hs⟩

set_option maxRecDepth 100000 in
set_option maxHeartbeats 1000000 in
theorem comb_dot (x y : Int) (A A' : Option Addr) (c c' : Nat) (w : World) (h1 : Sl w w.heap.size A (uCs (lims 4 x))) (h2 : Sl w w.heap.size A' (uCs (lims 4 y))) :
    Calls Tryd.prog 95 #[.slice A 4 c, .slice A' 4 c'] w (GaveN 4 (x + y) w) := by
  have HS := hide (callsN (ladd_any 4 x y (by omega) (by omega) A A' c c' w h1 h2))
  clear h1 h2
  go_enter Tryd.func95, Tryd.ntmps95
  go_wp2_with fail
  refine HS.out.mono ?_
  rintro e w1 ⟨A1, c1, rfl, hb1, h1⟩
  go_wp2
  go_ret
  exact ⟨A1, c1, rfl, hb1, h1⟩
set_option maxRecDepth 100000 in
set_option maxHeartbeats 4000000 in
theorem prod_dot (ux uy vx vy : Int) (fx : Fits 2 ux) (fy : Fits 2 uy) (gx : Fits 2 vx) (gy : Fits 2 vy) (A1 A2 A3 A4 : Option Addr) (c1 c2 c3 c4 : Nat) (w : World)
    (h1 : Sl w w.heap.size A1 (uCs (lims 2 ux))) (h2 : Sl w w.heap.size A2 (uCs (lims 2 uy))) (h3 : Sl w w.heap.size A3 (uCs (lims 2 vx))) (h4 : Sl w w.heap.size A4 (uCs (lims 2 vy))) :
    Calls Tryd.prog 83 #[.agg #[.slice A1 2 c1, .slice A2 2 c2], .agg #[.slice A3 2 c3, .slice A4 2 c4], .func (.func 94) #[] #[], .func (.func 95) #[] #[]] w (GaveN 4 (ux * vx + uy * vy) w) := by
  obtain ⟨w0, hw0⟩ : ∃ w0, w0 = ((w.alloc (.cells #[.slice A1 2 c1, .slice A2 2 c2] 140)).alloc (.cells #[.slice A3 2 c3, .slice A4 2 c4] 140)).alloc (.cells #[.slice A1 2 c1, .slice A2 2 c2, .slice A3 2 c3, .slice A4 2 c4] 140) := ⟨_, rfl⟩
  have hb0 : Below w.heap.size w w0 := by rw [hw0]; exact bl_alloc (bl_alloc (bl_alloc (Below.refl _ _) _) _) _
  have U0 : Blk w0 w.heap.size 140 #[.slice A1 2 c1, .slice A2 2 c2] := by rw [hw0]; exact ((Blk.new _ _ _).alloc _).alloc _
  have V0 : Blk w0 (w.heap.size + 1) 140 #[.slice A3 2 c3, .slice A4 2 c4] := by rw [hw0]; exact (Blk.new2 _ _ _ _).alloc _
  have S0 : Blk w0 (w.heap.size + 1 + 1) 140 #[.slice A1 2 c1, .slice A2 2 c2, .slice A3 2 c3, .slice A4 2 c4] := by
    rw [hw0]
    have h := Blk.new ((w.alloc (.cells #[.slice A1 2 c1, .slice A2 2 c2] 140)).alloc (.cells #[.slice A3 2 c3, .slice A4 2 c4] 140)) 140 #[.slice A1 2 c1, .slice A2 2 c2, .slice A3 2 c3, .slice A4 2 c4]
    simpa using h
  have M1 : ∀ wk, Below w.heap.size w wk → Calls Tryd.prog 80 #[.slice A1 2 c1, .slice A3 2 c3] wk (GaveN 4 (ux * vx) wk) := fun wk hk => callsN (lmul_any 2 2 ux vx (by omega) (by omega) (by omega) fx gx A1 A3 c1 c3 wk ((h1.below hk).more hk.size) ((h3.below hk).more hk.size))
  have M2 : ∀ wk, Below w.heap.size w wk → Calls Tryd.prog 80 #[.slice A2 2 c2, .slice A4 2 c4] wk (GaveN 4 (uy * vy) wk) := fun wk hk => callsN (lmul_any 2 2 uy vy (by omega) (by omega) (by omega) fy gy A2 A4 c2 c4 wk ((h2.below hk).more hk.size) ((h4.below hk).more hk.size))
  have HIS := hide (dis_true A1 A2 A3 A4 c1 c2 c3 c4 _ w0 S0)
  have HM1 := hide M1; have HM2 := hide M2
  clear M1 M2 h1 h2 h3 h4 fx fy gx gy
  go_enter Tryd.func83, Tryd.ntmps83
  go_wp2_with fail
  rw [← hw0]
  have HW0 := hide hw0
  clear hw0
  refine HIS.out.mono ?_
  rintro e w1 ⟨rfl, hb1⟩
  have V1 := V0.step hb1
  have v0 := V1.cell (i := 0) rfl
  have v1 := V1.cell (i := 1) rfl
  have HAR : Hid (Calls Tryd.prog 94 #[.agg #[.slice A3 2 c3, .slice A4 2 c4]] w1 fun e w' => e = .returned (.agg #[.slice A3 2 c3, .slice A4 2 c4]) ∧ Below w1.heap.size w1 w') := hide (same_any A3 A4 c3 c4 w1)
  go_wp2_with fail
  refine HAR.out.mono ?_
  rintro e w2 ⟨rfl, hb2⟩
  obtain ⟨w3, hw3⟩ : ∃ w3, w3 = w2.alloc (.cells #[.slice A3 2 c3, .slice A4 2 c4] 140) := ⟨_, rfl⟩
  have hb3 : Below w2.heap.size w2 w3 := by rw [hw3]; exact bl_alloc (Below.refl _ _) _
  have W3 : Blk w3 w2.heap.size 140 #[.slice A3 2 c3, .slice A4 2 c4] := by rw [hw3]; exact Blk.new _ _ _
  have U3 := ((U0.step hb1).step hb2).step hb3
  have HB3 := bl_step (bl_step (bl_step hb0 hb1) hb2) hb3
  clear v0 v1
  go_wp2
  rw [← hw3]
  have HW3 := hide hw3
  clear hw3
  have u0 := U3.cell (i := 0) rfl
  have u1 := U3.cell (i := 1) rfl
  have x0 := W3.cell (i := 0) rfl
  have x1 := W3.cell (i := 1) rfl
  have hS0 : (fun w' : World => Below w3.heap.size w3 w' ∧ w'.cell? ⟨w.heap.size, 0, none⟩ = some (.slice A1 2 c1) ∧ w'.cell? ⟨w.heap.size, 1, none⟩ = some (.slice A2 2 c2) ∧ w'.cell? ⟨w2.heap.size, 0, none⟩ = some (.slice A3 2 c3) ∧ w'.cell? ⟨w2.heap.size, 1, none⟩ = some (.slice A4 2 c4)) w3 := ⟨Below.refl _ _, u0, u1, x0, x1⟩
  have hSd : (fun w' : World => Below w3.heap.size w3 w' ∧ w'.cell? ⟨w.heap.size, 0, none⟩ = some (.slice A1 2 c1) ∧ w'.cell? ⟨w.heap.size, 1, none⟩ = some (.slice A2 2 c2) ∧ w'.cell? ⟨w2.heap.size, 0, none⟩ = some (.slice A3 2 c3) ∧ w'.cell? ⟨w2.heap.size, 1, none⟩ = some (.slice A4 2 c4)) w3.drew := keepC4 (bl_drew (Below.refl _ _)) hS0
  have N1 : Hid (∀ w', (Below w3.heap.size w3 w' ∧ w'.cell? ⟨w.heap.size, 0, none⟩ = some (.slice A1 2 c1) ∧ w'.cell? ⟨w.heap.size, 1, none⟩ = some (.slice A2 2 c2) ∧ w'.cell? ⟨w2.heap.size, 0, none⟩ = some (.slice A3 2 c3) ∧ w'.cell? ⟨w2.heap.size, 1, none⟩ = some (.slice A4 2 c4)) → Calls Tryd.prog 80 #[.slice A1 2 c1, .slice A3 2 c3] w' (GaveN 4 (ux * vx) w')) := hide fun wk h => HM1.out wk (bl_step HB3 h.1)
  have N2 : Hid (∀ w', (Below w3.heap.size w3 w' ∧ w'.cell? ⟨w.heap.size, 0, none⟩ = some (.slice A1 2 c1) ∧ w'.cell? ⟨w.heap.size, 1, none⟩ = some (.slice A2 2 c2) ∧ w'.cell? ⟨w2.heap.size, 0, none⟩ = some (.slice A3 2 c3) ∧ w'.cell? ⟨w2.heap.size, 1, none⟩ = some (.slice A4 2 c4)) → Calls Tryd.prog 80 #[.slice A2 2 c2, .slice A4 2 c4] w' (GaveN 4 (uy * vy) w')) := hide fun wk h => HM2.out wk (bl_step HB3 h.1)
  go_region_held3 (fun w' => Below w3.heap.size w3 w' ∧ w'.cell? ⟨w.heap.size, 0, none⟩ = some (.slice A1 2 c1) ∧ w'.cell? ⟨w.heap.size, 1, none⟩ = some (.slice A2 2 c2) ∧ w'.cell? ⟨w2.heap.size, 0, none⟩ = some (.slice A3 2 c3) ∧ w'.cell? ⟨w2.heap.size, 1, none⟩ = some (.slice A4 2 c4))
    (first | exact hSd | exact hS0 | exact keepC4 (by assumption) (by assumption) | exact keepC4 (by assumption) hSd)
    (first
      | (go_at_call 80; ((with_reducible refine (N1.out _ (by assumption)).mono ?_); rintro e w' ⟨A5, c5, rfl, hb4, hs4⟩))
      | (go_at_call 80; ((with_reducible refine (N1.out _ hSd).mono ?_); rintro e w' ⟨A5, c5, rfl, hb4, hs4⟩))
      | (go_at_call 80; ((with_reducible refine (N2.out _ (by assumption)).mono ?_); rintro e w' ⟨A6, c6, rfl, hb5, hs5⟩))
      | (go_at_call 95; ((with_reducible refine (comb_dot _ _ _ _ _ _ _ ((hs4.below hb5).more hb5.size) hs5).mono ?_); rintro e w' ⟨A7, c7, rfl, hb6, hs6⟩)))
  all_goals
    go_wp2
    go_ret
    exact ⟨A7, c7, rfl, bl_step (bl_step (bl_step (bl_drew HB3) hb4) hb5) hb6, hs6⟩
set_option maxRecDepth 100000 in
set_option maxHeartbeats 1000000 in
theorem dot_any (ux uy vx vy : Int) (fx : Fits 2 ux) (fy : Fits 2 uy) (gx : Fits 2 vx) (gy : Fits 2 vy) (A1 A2 A3 A4 : Option Addr) (c1 c2 c3 c4 : Nat) (w : World)
    (h1 : Sl w w.heap.size A1 (uCs (lims 2 ux))) (h2 : Sl w w.heap.size A2 (uCs (lims 2 uy))) (h3 : Sl w w.heap.size A3 (uCs (lims 2 vx))) (h4 : Sl w w.heap.size A4 (uCs (lims 2 vy))) :
    Calls Tryd.prog 88 #[.agg #[.slice A1 2 c1, .slice A2 2 c2], .agg #[.slice A3 2 c3, .slice A4 2 c4]] w (GaveN 4 (ux * vx + uy * vy) w) := by
  obtain ⟨w0, hw0⟩ : ∃ w0, w0 = (w.alloc (.cells #[.slice A1 2 c1, .slice A2 2 c2] 140)).alloc (.cells #[.slice A3 2 c3, .slice A4 2 c4] 140) := ⟨_, rfl⟩
  have hb0 : Below w.heap.size w w0 := by rw [hw0]; exact bl_alloc (bl_alloc (Below.refl _ _) _) _
  have hz := hb0.size
  have HP := hide (prod_dot ux uy vx vy fx fy gx gy A1 A2 A3 A4 c1 c2 c3 c4 w0 ((h1.below hb0).more hz) ((h2.below hb0).more hz) ((h3.below hb0).more hz) ((h4.below hb0).more hz))
  clear h1 h2 h3 h4 fx fy gx gy
  go_enter Tryd.func88, Tryd.ntmps88
  go_wp2_with fail
  rw [← hw0]
  have HW0 := hide hw0
  clear hw0
  refine HP.out.mono ?_
  rintro e w1 ⟨A5, c5, rfl, hb1, hs⟩
  go_wp2
  go_ret
  exact ⟨A5, c5, rfl, bl_step hb0 hb1, hs⟩
end Go.Proofs.YtgbimniloabjkaaDoor
