/- The examples of chapter 19 hold; Answer, Convex and Fence with no tape. -/
import Derived.Test.YtgbimniloabjkaaGreatDoorAnswerE
namespace Go.Proofs.YtgbimniloabjkaaGreatDoor
open Go.RowKit Go.Shelf

theorem slb {w : World} {g : Nat} {t : TypeId} {xs : List Value} (h : Blk w g t xs.toArray) : Sl w w.heap.size (some ⟨g, 0, none⟩) xs :=
  Sl.mk h.lt fun j u hu => by rw [Nat.zero_add]; exact h.cell (by simpa using hu)
section
variable (w : World) (hw : MW w)
include hw
theorem answer_nil (op vs pts : Int) (hrs : List Rg) (HA : Option Addr) (hc : Nat) (gs : List Gr) (GA : Option Addr) (gc : Nat) (ps : List Pt) (PA : Option Addr) (pc : Nat) (qs : List ((Int × Int) × Int)) (QA : Option Addr) (qc : Nat)
    (hps : PsJ ps) (hs : Sl w w.heap.size PA (ptCs ps)) (hcap : ps.length ≤ pc) (hgc : Sl w w.heap.size GA (rgCells (gs.map (·.1)))) (hgs : ∀ g ∈ gs, g.1.n = g.2.length ∧ Sl w w.heap.size g.1.A (ptCs g.2) ∧ PsJ g.2 ∧ g.2.length ≤ 10000) (hh : Sl w w.heap.size HA (rgCells hrs)) (hnm : hrs.length ≤ maxLen) (hqs : Sl w w.heap.size QA (quCs qs)) :
    Calls Tryz.prog 8 #[.pointer none, .agg #[.int .i64 op, .int .i64 vs, .slice HA hrs.length hc, .int .i64 pts, .slice GA gs.length gc, .slice PA ps.length pc, .slice QA qs.length qc]] w fun e w' => e = .returned (.tuple #[.agg #[.int .i64 (ansV op vs hrs pts gs ps qs).1, .int .i64 0, .slice none 0 0], .int .i64 (ansV op vs hrs pts gs ps qs).2]) ∧ Below w.heap.size w w' := by
  have h := answer_any (fun k => k < w.heap.size) none [] op vs pts hrs HA hc gs GA gc ps PA pc qs QA qc w (fun k h => h) hw.2 hw trivial (by simp) hps (hs.slP fun k h => h) hcap (hgc.slP fun k h => h) (fun g hg => ⟨(hgs g hg).1, (hgs g hg).2.1.slP fun k h => h, (hgs g hg).2.2⟩) (hh.slP fun k h => h) hnm hqs
  refine h.mono ?_
  rintro e w' ⟨he, hk, _⟩
  exact ⟨he, hk.below fun k h => h⟩
theorem convex_nil (ps : List Pt) (hps : PsJ ps) (hn : ps.length ≤ 10000) (A : Option Addr) (c : Nat) (hs : Sl w w.heap.size A (ptCs ps)) (p : Pt) (hp : PJ p) :
    Calls Tryz.prog 11 #[.pointer none, .slice A ps.length c, .agg #[.int .i64 p.1, .int .i64 p.2]] w fun e w' => e = .returned (.int .i64 (convexA ps p)) ∧ Below w.heap.size w w' := by
  have h := convex_any (fun k => k < w.heap.size) none [] p hp w (fun k h => h) hw.2 hw trivial (by simp) ps hps hn A c (hs.slP fun k h => h)
  refine h.mono ?_
  rintro e w' ⟨he, hk, _⟩
  exact ⟨he, hk.below fun k h => h⟩
theorem fence_nil (p : Pt) (hp : PJ p) : Calls Tryz.prog 18 #[.pointer none, .slice none 0 0, .agg #[.int .i64 p.1, .int .i64 p.2]] w fun e w' => e = .returned (.int .i64 2) ∧ Below w.heap.size w w' := by
  have h := efence_any (fun k => k < w.heap.size) none [] p hp w (fun k h => h) hw.2 hw trivial (by simp) [] none 0 (.inl rfl) (fun g hg => by cases hg)
  refine h.mono ?_
  rintro e w' ⟨he, hk, _⟩
  exact ⟨he, hk.below fun k h => h⟩
end

def ex3 : List Pt := [(0, 0), (1, 0), (0, 1)]
def ex4 : List Pt := [(0, 0), (4, 0), (4, 4), (0, 4)]
def exL : List Pt := [(0, 0), (1, 1), (2, 2)]
theorem exA : ansV 1 0 [] 0 [] ex3 [] = (2, 0) := by decide +kernel
theorem exB : ansV 0 0 [] 0 [] [] [] = (0, 5) := by decide +kernel
theorem exC : convexA ex4 (4, 2) = 1 := by decide +kernel
theorem exD : convexA exL (0, 0) = 3 := by decide +kernel
theorem psJ_dec {ps : List Pt} (h : (ps.all fun p => decide (-1000 ≤ p.1) && decide (p.1 ≤ 1000) && decide (-1000 ≤ p.2) && decide (p.2 ≤ 1000)) = true) : PsJ ps := by
  intro p hp
  have := List.all_eq_true.1 h p hp
  simp at this
  exact ⟨⟨by omega, by omega⟩, by omega, by omega⟩

set_option maxRecDepth 100000 in
set_option maxHeartbeats 4000000 in
theorem alive19 (w : World) (hw : MW w) : Calls Tryz.prog 7 #[] w fun e w' => e = .returned (.bool true) ∧ Below w.heap.size w w' := by
  have HW := hide hw
  clear hw
  go_enter Tryz.func7, Tryz.ntmps7
  go_wp2_with fail
  obtain ⟨w0, hw0⟩ : ∃ w0, w0 = w.alloc (.cells #[.int .i64 0, .int .i64 0, .int .i64 1, .int .i64 0, .int .i64 0, .int .i64 1] 44) := ⟨_, rfl⟩
  rw [← hw0]
  have hb0 : Below w.heap.size w w0 := by rw [hw0]; exact bl_alloc (Below.refl _ _) _
  have B0 : Blk w0 w.heap.size 44 (ptCs ex3).toArray := by rw [hw0]; exact Blk.new _ _ _
  have HW0 := hide hw0; clear hw0
  have E := answer_nil w0 (HW.out.step hb0) 1 0 0 [] none 0 [] none 0 ex3 (some ⟨w.heap.size, 0, none⟩) 3 [] none 0 (psJ_dec (by decide)) (slb B0) (by decide) (Sl.nil _ _ _) (fun g hg => by cases hg) (Sl.nil _ _ _) (by simp [maxLen]) (Sl.nil _ _ _)
  rw [exA] at E
  refine E.mono ?_
  clear E B0
  rintro e w1 ⟨rfl, hb1⟩
  have HB1 := bl_step hb0 hb1
  clear hb0 hb1
  dsimp only
  obtain ⟨w2, hw2⟩ : ∃ w2, w2 = w1.alloc (.cells #[.int .i64 2, .int .i64 0, .slice none 0 0] 33) := ⟨_, rfl⟩
  obtain ⟨ab, hab⟩ : ∃ ab, ab = w1.heap.size := ⟨_, rfl⟩
  have HB2 : Below w.heap.size w w2 := by rw [hw2]; exact bl_alloc HB1 _
  have A2 : Blk w2 ab 33 #[.int .i64 2, .int .i64 0, .slice none 0 0] := by rw [hw2, hab]; exact Blk.new _ _ _
  have HAB := hide hab; clear hab
  go_wp2_with fail
  rw [← hw2, ← HAB.out]
  have HW2 := hide hw2; clear hw2
  have E := answer_nil w2 (HW.out.step HB2) 0 0 0 [] none 0 [] none 0 [] none 0 [] none 0 (fun p hp => by cases hp) (Sl.nil _ _ _) (by simp) (Sl.nil _ _ _) (fun g hg => by cases hg) (Sl.nil _ _ _) (by simp [maxLen]) (Sl.nil _ _ _)
  rw [exB] at E
  refine E.mono ?_
  clear E
  rintro e w3 ⟨rfl, hb3⟩
  have HB3 := bl_step HB2 hb3
  have A3 := A2.step hb3
  clear A2 hb3
  dsimp only
  obtain ⟨w4, hw4⟩ : ∃ w4, w4 = (w3.alloc (.cells #[.int .i64 0, .int .i64 0, .slice none 0 0] 33)).alloc (.cells #[.int .i64 0, .int .i64 0, .int .i64 4, .int .i64 0, .int .i64 4, .int .i64 4, .int .i64 0, .int .i64 4] 44) := ⟨_, rfl⟩
  have hb4 : Below w3.heap.size w3 w4 := by rw [hw4]; exact bl_alloc (bl_alloc (Below.refl _ _) _) _
  have HB4 := bl_step HB3 hb4
  have A4 := A3.step hb4
  have V4 : Blk w4 (w3.heap.size + 1) 44 (ptCs ex4).toArray := by rw [hw4]; exact Blk.new2 _ _ _ _
  have a4 : w4.cell? ⟨ab, 0, none⟩ = some (.int .i64 2) := A4.cell (i := 0) rfl
  rw [hw4] at a4
  clear A3 A4
  go_wp2_with fail
  rw [← hw4]
  have HW4 := hide hw4; clear hw4 a4
  have E := convex_nil w4 (HW.out.step HB4) ex4 (psJ_dec (by decide)) (by decide) (some ⟨w3.heap.size + 1, 0, none⟩) 4 (slb V4) (4, 2) ⟨⟨by decide, by decide⟩, by decide, by decide⟩
  rw [exC] at E
  refine E.mono ?_
  clear E
  rintro e w5 ⟨rfl, hb5⟩
  have HB5 := bl_step HB4 hb5
  have V5 := V4.step hb5
  clear V4
  obtain ⟨w6, hw6⟩ : ∃ w6, w6 = w5.alloc (.cells #[.int .i64 0, .int .i64 0, .int .i64 1, .int .i64 1, .int .i64 2, .int .i64 2] 44) := ⟨_, rfl⟩
  have HB6 : Below w.heap.size w w6 := by rw [hw6]; exact bl_alloc HB5 _
  have L6 : Blk w6 w5.heap.size 44 (ptCs exL).toArray := by rw [hw6]; exact Blk.new _ _ _
  have V6 : Blk w6 (w3.heap.size + 1) 44 (ptCs ex4).toArray := by rw [hw6]; exact V5.alloc _
  have z0 : w6.cell? ⟨w3.heap.size + 1, 0, none⟩ = some (.int .i64 0) := V6.cell (i := 0) rfl
  have z1 : w6.cell? ⟨w3.heap.size + 1, 1, none⟩ = some (.int .i64 0) := V6.cell (i := 1) rfl
  rw [hw6] at z0 z1
  clear V5
  go_wp2_with fail
  rw [← hw6]
  have HW6 := hide hw6; clear hw6 z0 z1
  have E := convex_nil w6 (HW.out.step HB6) exL (psJ_dec (by decide)) (by decide) (some ⟨w5.heap.size, 0, none⟩) 3 (slb L6) (0, 0) ⟨⟨by decide, by decide⟩, by decide, by decide⟩
  rw [exD] at E
  refine E.mono ?_
  clear E
  rintro e w7 ⟨rfl, hb7⟩
  have HB7 := bl_step HB6 hb7
  have V7 := V6.step hb7
  have z0 : w7.cell? ⟨w3.heap.size + 1, 0, none⟩ = some (.int .i64 0) := V7.cell (i := 0) rfl
  have z1 : w7.cell? ⟨w3.heap.size + 1, 1, none⟩ = some (.int .i64 0) := V7.cell (i := 1) rfl
  clear V6 V7
  go_wp2_with fail
  refine (fence_nil w7 (HW.out.step HB7) (0, 0) ⟨⟨by decide, by decide⟩, by decide, by decide⟩).mono ?_
  rintro e w8 ⟨rfl, hb8⟩
  go_wp2
  go_ret
  exact ⟨rfl, bl_step HB7 hb8⟩
end Go.Proofs.YtgbimniloabjkaaGreatDoor
