/- The reference's engine: Convex, Fence. -/
import Derived.Test.YtgbimniloabjkaaGreatDoorRefFence2
import Derived.Test.YtgbimniloabjkaaGreatDoorEngine
namespace Go.Proofs.YtgbimniloabjkaaGreatDoor
open Go.RowKit

theorem locV_bd (ps : List Pt) (p : Pt) : -1 ≤ locV ps p ∧ locV ps p ≤ 1 := sgnM_bd _ _
set_option maxRecDepth 100000 in
set_option maxHeartbeats 2000000 in
theorem rconvex_any (ps : List Pt) (hps : PsJ ps) (p : Pt) (hp : PJ p) (A : Option Addr) (c : Nat) (w : World) (hs : Sl w w.heap.size A (ptCs ps)) :
    Calls Tryz.prog 12 #[.slice A ps.length c, ptV p] w fun e w' => e = .returned (.int .i64 (convexA ps p)) ∧ Below w.heap.size w w' := by
  obtain ⟨p1, p2⟩ := p
  unfold ptV
  obtain ⟨w0, hw0⟩ : ∃ w0, w0 = w.alloc (.cells #[.int .i64 p1, .int .i64 p2] 44) := ⟨_, rfl⟩
  have hb0 : Below w.heap.size w w0 := by rw [hw0]; exact bl_alloc (Below.refl _ _) _
  have B0 : Blk w0 w.heap.size 44 #[.int .i64 p1, .int .i64 p2] := by rw [hw0]; exact Blk.new _ _ _
  have hs0 := (hs.below hb0).more hb0.size
  have HV := hide (rvalid_any ps hps A c w0 hs0)
  have HL : Hid (∀ wk, Below w0.heap.size w0 wk → Calls Tryz.prog 31 #[.slice A ps.length c, .agg #[.int .i64 p1, .int .i64 p2]] wk fun e w' => e = .returned (.int .i64 (locV ps (p1, p2))) ∧ Below wk.heap.size wk w') := hide fun wk h => rlocate_any ps hps (p1, p2) hp A c wk ((hs0.below h).more h.size)
  have hlb := locV_bd ps (p1, p2)
  have HC : Hid (convexA ps (p1, p2) = bif validV ps then locV ps (p1, p2) + 1 else 3) := hide rfl
  generalize locV ps (p1, p2) = l at *
  have HB0 := hide hb0; have HBB := hide B0
  clear hps hp hs hs0 hb0 B0
  cases hv : validV ps
  · rw [hv] at HV HC
    go_enter Tryz.func12, Tryz.ntmps12
    go_wp2_with fail
    rw [← hw0]
    clear hw0
    refine HV.out.mono ?_
    rintro e w1 ⟨rfl, hb1⟩
    go_wp2
    go_ret
    exact ⟨by rw [HC.out]; rfl, bl_step HB0.out hb1⟩
  · rw [hv] at HV HC
    go_enter Tryz.func12, Tryz.ntmps12
    go_wp2_with fail
    rw [← hw0]
    clear hw0
    refine HV.out.mono ?_
    rintro e w1 ⟨rfl, hb1⟩
    have c0 : w1.cell? ⟨w.heap.size, 0, none⟩ = some (.int .i64 p1) := (HBB.out.step hb1).cell (i := 0) rfl
    have c1 : w1.cell? ⟨w.heap.size, 1, none⟩ = some (.int .i64 p2) := (HBB.out.step hb1).cell (i := 1) rfl
    have hb1' := hide hb1
    clear hb1
    go_wp2_with fail
    refine (HL.out _ hb1'.out).mono ?_
    rintro e w2 ⟨rfl, hb2⟩
    go_wp2
    go_ret
    exact ⟨by rw [HC.out]; rfl, bl_step HB0.out (bl_step hb1'.out hb2)⟩
set_option maxRecDepth 100000 in
set_option maxHeartbeats 2000000 in
theorem rfence_any (gs : List Gr) (p : Pt) (hp : PJ p) (GA : Option Addr) (gc : Nat) (w : World) (hs : Sl w w.heap.size GA (rgCells (gs.map (·.1)))) (hgs : GsR w gs) :
    Calls Tryz.prog 22 #[.slice GA gs.length gc, ptV p] w fun e w' => e = .returned (.int .i64 (fenceA gs p)) ∧ Below w.heap.size w w' := by
  obtain ⟨p1, p2⟩ := p
  unfold ptV
  obtain ⟨w0, hw0⟩ : ∃ w0, w0 = w.alloc (.cells #[.int .i64 p1, .int .i64 p2] 44) := ⟨_, rfl⟩
  have hb0 : Below w.heap.size w w0 := by rw [hw0]; exact bl_alloc (Below.refl _ _) _
  have B0 : Blk w0 w.heap.size 44 #[.int .i64 p1, .int .i64 p2] := by rw [hw0]; exact Blk.new _ _ _
  have hs0 := (hs.below hb0).more hb0.size
  have hgs0 := hgs.step hb0
  have HV := hide (rfvalid_any gs GA gc w0 hs0 hgs0)
  have HL : Hid (∀ wk, Below w0.heap.size w0 wk → Calls Tryz.prog 40 #[.slice GA gs.length gc, .agg #[.int .i64 p1, .int .i64 p2]] wk fun e w' => e = .returned (.bool (memOk gs (p1, p2))) ∧ Below wk.heap.size wk w') := hide fun wk h => rmember_any gs (p1, p2) hp GA gc wk ((hs0.below h).more h.size) (hgs0.step h)
  have HC : Hid (fenceA gs (p1, p2) = bif fenceOk gs then (bif memOk gs (p1, p2) then 1 else 0) else 2) := hide rfl
  have HB0 := hide hb0; have HBB := hide B0
  clear hp hs hs0 hgs hgs0 hb0 B0
  generalize memOk gs (p1, p2) = l at *
  cases hv : fenceOk gs
  · rw [hv] at HV HC
    go_enter Tryz.func22, Tryz.ntmps22
    go_wp2_with fail
    rw [← hw0]
    clear hw0
    refine HV.out.mono ?_
    rintro e w1 ⟨rfl, hb1⟩
    go_wp2
    go_ret
    exact ⟨by rw [HC.out]; rfl, bl_step HB0.out hb1⟩
  · rw [hv] at HV HC
    cases l
    all_goals
      go_enter Tryz.func22, Tryz.ntmps22
      go_wp2_with fail
      rw [← hw0]
      clear hw0
      refine HV.out.mono ?_
      rintro e w1 ⟨rfl, hb1⟩
      have c0 : w1.cell? ⟨w.heap.size, 0, none⟩ = some (.int .i64 p1) := (HBB.out.step hb1).cell (i := 0) rfl
      have c1 : w1.cell? ⟨w.heap.size, 1, none⟩ = some (.int .i64 p2) := (HBB.out.step hb1).cell (i := 1) rfl
      have hb1' := hide hb1
      clear hb1
      go_wp2_with fail
      refine (HL.out _ hb1'.out).mono ?_
      rintro e w2 ⟨rfl, hb2⟩
      go_wp2
      go_ret
      exact ⟨by rw [HC.out]; rfl, bl_step HB0.out (bl_step hb1'.out hb2)⟩
end Go.Proofs.YtgbimniloabjkaaGreatDoor
