/- CodecEncodes: the law's function returns true. -/
import Derived.Test.YtcfbkabiapaobaaAlive18
import Derived.Test.YtcfbkabiapaobaaRefEncode
import Derived.Test.YtcfbkabiapaobaaLarge18
namespace Go.Proofs.Ytcfbkabiapaobaa
open Go.RowKit

section
variable (op vs pts : Int) (hrs : List Rg) (HA : Option Addr) (hc : Nat) (gs : List Gr) (GA : Option Addr) (gc : Nat) (ps : List (Int × Int)) (PA : Option Addr) (pc : Nat) (qs : List ((Int × Int) × Int)) (QA : Option Addr) (qc : Nat) (w : World)
variable (hh : Sl w w.heap.size HA (rgCells hrs)) (hgc : Sl w w.heap.size GA (rgCells (gs.map (·.1)))) (hgs : GsOk w w.heap.size gs) (hps : Sl w w.heap.size PA (ptCs ps)) (hqs : Sl w w.heap.size QA (quCs qs)) (hqu : ∀ q ∈ qs, U64 q.2)
variable (hn : hrs.length ≤ maxLen) (hgn : gs.length ≤ maxLen)
include hh hgc hgs hps hqs hqu hn hgn

omit hh hgc hps hqs hqu hn hgn in
theorem GsOk.below {w' : World} (hb : Below w.heap.size w w') : GsOk w' w'.heap.size gs := fun g hg => ⟨(hgs g hg).1, ((hgs g hg).2.below hb).more hb.size⟩
set_option maxRecDepth 1000000 in
set_option maxHeartbeats 4000000 in
theorem lawEncodes : Calls Try.prog 3 #[.agg #[.int .i64 op, .int .i64 vs, .slice HA hrs.length hc, .int .i64 pts, .slice GA gs.length gc, .slice PA ps.length pc, .slice QA qs.length qc]] w fun e w' => e = .returned (.bool true) ∧ Below w.heap.size w w' := by
  have HH := hide hh; have HG := hide hgc; have HGS := hide hgs; have HP := hide hps; have HQ := hide hqs; have HQU := hide hqu; have HN := hide hn; have HGN := hide hgn
  clear hh hgc hgs hps hqs hqu hn hgn
  obtain ⟨w0, hw0⟩ : ∃ w0, w0 = w.alloc (.cells #[.int .i64 op, .int .i64 vs, .slice HA hrs.length hc, .int .i64 pts, .slice GA gs.length gc, .slice PA ps.length pc, .slice QA qs.length qc] 28) := ⟨_, rfl⟩
  have hb0 : Below w.heap.size w w0 := by rw [hw0]; exact bl_alloc (Below.refl _ _) _
  have B0 : Blk w0 w.heap.size 28 #[.int .i64 op, .int .i64 vs, .slice HA hrs.length hc, .int .i64 pts, .slice GA gs.length gc, .slice PA ps.length pc, .slice QA qs.length qc] := by rw [hw0]; exact Blk.new _ _ _
  obtain ⟨r, hr⟩ : ∃ r, hencode op vs hrs pts gs ps qs = r := ⟨_, rfl⟩
  have HR := hide hr; clear hr
  obtain ⟨bsr, er⟩ := r
  have L := large18 op vs pts hrs HA hc gs GA gc ps PA pc qs QA qc w0 ((HG.out.below hb0).more hb0.size) HGN.out
  have HL := hide L; clear L
  go_enter Try.func3, Try.ntmps3
  go_wp2_with fail
  rw [← hw0]
  have HW0 := hide hw0; clear hw0
  refine HL.out.mono ?_
  rintro e w1 ⟨b, rfl, hb1⟩
  have HB1 := bl_step hb0 hb1
  have B1 := B0.step hb1
  have b0 := B1.cell (i := 0) rfl
  have b1 := B1.cell (i := 1) rfl
  have b2 := B1.cell (i := 2) rfl
  have b3 := B1.cell (i := 3) rfl
  have b4 := B1.cell (i := 4) rfl
  have b5 := B1.cell (i := 5) rfl
  have b6 := B1.cell (i := 6) rfl
  cases b
  · go_wp2_with fail
    have E := encode_any op vs pts hrs HA hc gs GA gc ps PA pc qs QA qc w1 ((HH.out.below HB1).more HB1.size) ((HG.out.below HB1).more HB1.size) (GsOk.below gs w HGS.out HB1) ((HP.out.below HB1).more HB1.size) ((HQ.out.below HB1).more HB1.size) HN.out
    rw [HR.out] at E
    refine E.mono ?_
    clear E
    rintro e w2 ⟨v, rfl, hv, hb2⟩
    dsimp only at hv ⊢
    obtain ⟨VA, vc, rfl, hvc⟩ := own_slice hv
    have HB2 := bl_step HB1 hb2
    have HSV : Hid (Sl w2 w2.heap.size VA (byCells bsr)) := hide (Sl.of_own hv)
    clear hv b0 b1 b2 b3 b4 b5 b6
    have B2 := B1.step hb2
    have b0 := B2.cell (i := 0) rfl
    have b1 := B2.cell (i := 1) rfl
    have b2 := B2.cell (i := 2) rfl
    have b3 := B2.cell (i := 3) rfl
    have b4 := B2.cell (i := 4) rfl
    have b5 := B2.cell (i := 5) rfl
    have b6 := B2.cell (i := 6) rfl
    go_wp2_with fail
    have E := rencode_any op vs pts hrs HA hc gs GA gc ps PA pc qs QA qc w2 ((HH.out.below HB2).more HB2.size) ((HG.out.below HB2).more HB2.size) (GsOk.below gs w HGS.out HB2) ((HP.out.below HB2).more HB2.size) ((HQ.out.below HB2).more HB2.size) HQU.out
    rw [HR.out] at E
    refine E.mono ?_
    clear E
    rintro e w3 ⟨v, rfl, hv, hb3⟩
    dsimp only at hv ⊢
    obtain ⟨UA, uc, rfl, huc⟩ := own_slice hv
    have HB3 := bl_step HB2 hb3
    have HSU : Hid (Sl w3 w3.heap.size UA (byCells bsr)) := hide (Sl.of_own hv)
    clear hv
    go_wp2_with fail
    refine (alive18 _).mono ?_
    rintro e w4 ⟨rfl, hb4⟩
    have HB4 := bl_step HB3 hb4
    go_wp2_with fail
    refine (equal_true bsr VA UA vc uc w4 (((HSV.out.below hb3).below (hb4.mono hb3.size)).more (Nat.le_trans hb3.size hb4.size)) ((HSU.out.below hb4).more hb4.size)).mono ?_
    rintro e w5 ⟨rfl, rfl⟩
    go_wp2
    go_ret
    exact ⟨rfl, HB4⟩
  · go_wp2_with fail
    refine (alive18 _).mono ?_
    rintro e w4 ⟨rfl, hb4⟩
    go_wp2
    go_ret
    exact ⟨rfl, bl_step HB1 hb4⟩
end
end Go.Proofs.Ytcfbkabiapaobaa
