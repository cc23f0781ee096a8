/- EngineAnswers: the law's function returns true. -/
import Derived.Test.YtgbimniloabjkaaGreatDoorAlive19
import Derived.Test.YtgbimniloabjkaaGreatDoorLarge19
import Derived.Test.YtgbimniloabjkaaGreatDoorRefAnswer19
namespace Go.Proofs.YtgbimniloabjkaaGreatDoor
open Go.RowKit Go.Shelf

section
variable (op vs pts : Int) (hrs : List Rg) (HA : Option Addr) (hc : Nat) (gs : List Gr) (GA : Option Addr) (gc : Nat) (ps : List Pt) (PA : Option Addr) (pc : Nat) (qs : List ((Int × Int) × Int)) (QA : Option Addr) (qc : Nat) (w : World)
variable (hh : Sl w w.heap.size HA (rgCells hrs)) (hgc : Sl w w.heap.size GA (rgCells (gs.map (·.1)))) (hgs : GsOk w w.heap.size gs) (hps : Sl w w.heap.size PA (ptCs ps)) (hqs : Sl w w.heap.size QA (quCs qs)) (hpJ : PsJ ps) (hgJ : ∀ g ∈ gs, PsJ g.2)
variable (hn : hrs.length ≤ maxLen) (hgn : gs.length ≤ maxLen) (hcap : ps.length ≤ pc) (hw : MW w) (hqu : ∀ q ∈ qs, U64 q.2)
include hh hgc hgs hps hqs hpJ hgJ hn hgn hcap hw hqu
set_option maxRecDepth 1000000 in
set_option maxHeartbeats 4000000 in
theorem lawAnswers : Calls Tryz.prog 3 #[.agg #[.int .i64 op, .int .i64 vs, .slice HA hrs.length hc, .int .i64 pts, .slice GA gs.length gc, .slice PA ps.length pc, .slice QA qs.length qc]] w fun e w' => e = .returned (.bool true) ∧ Below w.heap.size w w' := by
  obtain ⟨rb, hrb⟩ : ∃ rb, rb = w.heap.size := ⟨_, rfl⟩
  obtain ⟨w0, hw0⟩ : ∃ w0, w0 = w.alloc (.cells #[.int .i64 op, .int .i64 vs, .slice HA hrs.length hc, .int .i64 pts, .slice GA gs.length gc, .slice PA ps.length pc, .slice QA qs.length qc] 28) := ⟨_, rfl⟩
  have hb0 : Below w.heap.size w w0 := by rw [hw0]; exact bl_alloc (Below.refl _ _) _
  have B0 : Blk w0 rb 28 #[.int .i64 op, .int .i64 vs, .slice HA hrs.length hc, .int .i64 pts, .slice GA gs.length gc, .slice PA ps.length pc, .slice QA qs.length qc] := by rw [hw0, hrb]; exact Blk.new _ _ _
  have L := large19 op vs pts hrs HA hc gs GA gc ps PA pc qs QA qc w0 ((hgc.below hb0).more hb0.size) hgn
  have HL := hide L; clear L
  have HAN := hide (fun (w' : World) (hb : Below w.heap.size w w') (h250 : ∀ g ∈ gs, g.1.n ≤ 250) => answer_nil w' (hw.step hb) op vs pts hrs HA hc gs GA gc ps PA pc qs QA qc hpJ ((hps.below hb).more hb.size) hcap ((hgc.below hb).more hb.size) (fun g hg => ⟨(hgs g hg).1, ((hgs g hg).2.below hb).more hb.size, hgJ g hg, by have := h250 g hg; have := (hgs g hg).1; omega⟩) ((hh.below hb).more hb.size) hn ((hqs.below hb).more hb.size))
  have HRA := hide (fun (w' : World) (hb : Below w.heap.size w w') => ranswer_any op vs pts hrs HA hc gs GA gc ps PA pc qs QA qc w' ((hh.below hb).more hb.size) ((hgc.below hb).more hb.size) (fun g hg => ⟨(hgs g hg).1, ((hgs g hg).2.below hb).more hb.size, hgJ g hg⟩) hpJ ((hps.below hb).more hb.size) ((hqs.below hb).more hb.size) hqu hcap)
  have HAL := hide (fun (w' : World) (hb : Below w.heap.size w w') => alive19 w' (hw.step hb))
  obtain ⟨⟨val, err⟩, hE⟩ : ∃ E, E = ansV op vs hrs pts gs ps qs := ⟨_, rfl⟩
  rw [← hE] at HAN HRA
  clear hE hh hgc hgs hps hqs hpJ hgJ hn hgn hcap hw hqu
  go_enter Tryz.func3, Tryz.ntmps3
  go_wp2_with fail
  rw [← hw0, ← hrb]
  have HRB := hide hrb
  clear hw0 hrb
  refine HL.out.mono ?_
  rintro e w1 ⟨z, rfl, hz, hT, hb1⟩
  have HB1 := bl_step hb0 hb1
  have B1 := B0.step hb1
  clear B0 hb0 hb1 HL
  rcases hz with rfl | rfl
  · have h250 := (hT rfl).1
    have A := HAN.out w1 HB1 h250

    have HA1 := hide A
    have b0 := B1.cell (i := 0) rfl
    have b1 := B1.cell (i := 1) rfl
    have b2 := B1.cell (i := 2) rfl
    have b3 := B1.cell (i := 3) rfl
    have b4 := B1.cell (i := 4) rfl
    have b5 := B1.cell (i := 5) rfl
    have b6 := B1.cell (i := 6) rfl
    clear hT h250 A HAN
    go_wp2_with fail
    refine HA1.out.mono ?_
    rintro e w2 ⟨rfl, hb2⟩
    have HB2 := bl_step HB1 hb2
    have B2 := B1.step hb2
    clear b0 b1 b2 b3 b4 b5 b6 B1 hb2 HA1
    obtain ⟨w3, hw3⟩ : ∃ w3, w3 = w2.alloc (.cells #[.int .i64 val, .int .i64 0, .slice none 0 0] 33) := ⟨_, rfl⟩
    obtain ⟨ab, hab⟩ : ∃ ab, ab = w2.heap.size := ⟨_, rfl⟩
    have HB3 : Below w.heap.size w w3 := by rw [hw3]; exact bl_alloc HB2 _
    have A3 : Blk w3 ab 33 #[.int .i64 val, .int .i64 0, .slice none 0 0] := by rw [hw3, hab]; exact Blk.new _ _ _
    have B3 := B2.alloc (.cells #[.int .i64 val, .int .i64 0, .slice none 0 0] 33)
    rw [← hw3] at B3
    have HAB := hide hab
    clear hab B2
    have b0 : w3.cell? ⟨rb, 0, none⟩ = some (.int .i64 op) := B3.cell (i := 0) rfl
    have b1 : w3.cell? ⟨rb, 1, none⟩ = some (.int .i64 vs) := B3.cell (i := 1) rfl
    have b2 : w3.cell? ⟨rb, 2, none⟩ = some (.slice HA hrs.length hc) := B3.cell (i := 2) rfl
    have b3 : w3.cell? ⟨rb, 3, none⟩ = some (.int .i64 pts) := B3.cell (i := 3) rfl
    have b4 : w3.cell? ⟨rb, 4, none⟩ = some (.slice GA gs.length gc) := B3.cell (i := 4) rfl
    have b5 : w3.cell? ⟨rb, 5, none⟩ = some (.slice PA ps.length pc) := B3.cell (i := 5) rfl
    have b6 : w3.cell? ⟨rb, 6, none⟩ = some (.slice QA qs.length qc) := B3.cell (i := 6) rfl
    have HR := hide (HRA.out w3 HB3)
    clear HRA B3
    rw [hw3] at b0 b1 b2 b3 b4 b5 b6
    go_wp2_with fail
    rw [← hw3]
    clear hw3 b0 b1 b2 b3 b4 b5 b6
    refine HR.out.mono ?_
    rintro e w4 ⟨rfl, hb4⟩
    have HB4 := bl_step HB3 hb4
    have A4 := A3.step hb4
    clear hb4 A3
    obtain ⟨w5, hw5⟩ : ∃ w5, w5 = w4.alloc (.cells #[.int .i64 val, .int .i64 0, .slice none 0 0] 38) := ⟨_, rfl⟩
    obtain ⟨cb, hcb⟩ : ∃ cb, cb = w4.heap.size := ⟨_, rfl⟩
    have HB5 : Below w.heap.size w w5 := by rw [hw5]; exact bl_alloc HB4 _
    have C5 : Blk w5 cb 38 #[.int .i64 val, .int .i64 0, .slice none 0 0] := by rw [hw5, hcb]; exact Blk.new _ _ _
    have A5 := A4.alloc (.cells #[.int .i64 val, .int .i64 0, .slice none 0 0] 38)
    rw [← hw5] at A5
    have HCB := hide hcb
    clear hcb A4
    go_wp2_with fail
    rw [← hw5]
    clear hw5
    refine (HAL.out w5 HB5).mono ?_
    rintro e w6 ⟨rfl, hb6⟩
    have a0 : w6.cell? ⟨ab, 0, none⟩ = some (.int .i64 val) := (A5.step hb6).cell (i := 0) rfl
    have a1 : w6.cell? ⟨ab, 1, none⟩ = some (.int .i64 0) := (A5.step hb6).cell (i := 1) rfl
    have a2 : w6.cell? ⟨ab, 2, none⟩ = some (.slice none 0 0) := (A5.step hb6).cell (i := 2) rfl
    have c0 : w6.cell? ⟨cb, 0, none⟩ = some (.int .i64 val) := (C5.step hb6).cell (i := 0) rfl
    rw [HAB.out] at a0 a1 a2
    rw [HCB.out] at c0
    go_wp2
    go_ret
    exact ⟨rfl, bl_step HB5 hb6⟩
  · clear HAN HRA
    go_wp2_with fail
    refine (HAL.out w1 HB1).mono ?_
    rintro e w2 ⟨rfl, hb2⟩
    go_wp2
    go_ret
    exact ⟨rfl, bl_step HB1 hb2⟩
end
end Go.Proofs.YtgbimniloabjkaaGreatDoor
