/- HeaderFormats walked. -/
import Derived.Test.YtnnglpohkhjggaaDoorLawPrefixes
import Derived.Test.YtnnglpohkhjggaaDoorRefPayload
import Derived.Test.YtnnglpohkhjggaaDoorFormat2
import Derived.Test.YtnnglpohkhjggaaDoorFrame
import Derived.Deep.RegionHeld3
namespace Go.Proofs.YtnnglpohkhjggaaDoor
open Go.RowKit

/-- what the law's regions hold of the world -/
abbrev HeldF (w0 : World) (v0 v1 v2 v3 : Value) (w : World) : Prop :=
  Below w0.heap.size w0 w ∧ w.cell? ⟨w0.heap.size, 0, none⟩ = some v0 ∧ w.cell? ⟨w0.heap.size, 1, none⟩ = some v1 ∧ w.cell? ⟨w0.heap.size, 2, none⟩ = some v2 ∧ w.cell? ⟨w0.heap.size, 3, none⟩ = some v3
theorem cell_on {w w' : World} {g i : Nat} {v : Value} (hb : Below w.heap.size w w') (h : w.cell? ⟨g, i, none⟩ = some v) : w'.cell? ⟨g, i, none⟩ = some v := by
  exact (hb.cell (p := ⟨g, i, none⟩) (block_lt h)).trans h
theorem keepF {w0 wk w' : World} {v0 v1 v2 v3 : Value} (hb : Below wk.heap.size wk w') (h : HeldF w0 v0 v1 v2 v3 wk) : HeldF w0 v0 v1 v2 v3 w' :=
  ⟨bl_step h.1 hb, cell_on hb h.2.1, cell_on hb h.2.2.1, cell_on hb h.2.2.2.1, cell_on hb h.2.2.2.2⟩
theorem keepD {w0 wk : World} {v0 v1 v2 v3 : Value} (h : HeldF w0 v0 v1 v2 v3 wk) : HeldF w0 v0 v1 v2 v3 wk.drew :=
  keepF (bl_drew (Below.refl _ _)) h

section
variable (op vs pts : Int) (rs : List Rg) (A : Option Addr) (c : Nat) (w : World)
variable (hs : Sl w w.heap.size A (rgCells rs)) (hn : rs.length ≤ maxLen) (hfix : Fixed w) (hg : 0 < w.heap.size)

include hfix hg in
theorem aliveF {v0 v1 v2 v3 : Value} {wk : World} (h : HeldF w v0 v1 v2 v3 wk) :
    Calls Tryd.prog 12 #[] wk fun e w' => e = .returned (.bool true) ∧ Below wk.heap.size wk w' :=
  alive_true wk (fixed_at w hfix hg h.1).1 (fixed_at w hfix hg h.1).2
include hs hn hfix hg in
theorem payF {v0 v1 v2 v3 : Value} {wk : World} (h : HeldF w v0 v1 v2 v3 wk) :
    Calls Tryd.prog 21 #[.agg #[.int .i64 op, .int .i64 vs, .slice A rs.length c, .int .i64 pts]] wk fun e w' => e = .returned (.int .i64 (hpay op vs rs pts)) ∧ Below wk.heap.size wk w' :=
  payload_any vs rs A c pts wk ((hs.below h.1).more h.1.size) hn (fixed_at w hfix hg h.1).1 (fixed_at w hfix hg h.1).2 op
include hs hn in
theorem respF {v0 v1 v2 v3 : Value} {wk : World} (h : HeldF w v0 v1 v2 v3 wk) :
    Calls Tryd.prog 22 #[.agg #[.int .i64 op, .int .i64 vs, .slice A rs.length c, .int .i64 pts]] wk fun e w' => e = .returned (.int .i64 (hresp op vs rs pts)) ∧ Below wk.heap.size wk w' :=
  response_any vs rs A c pts wk ((hs.below h.1).more h.1.size) hn op
include hs in
theorem rpayF (hz : hcheck op vs rs pts = 0) {v0 v1 v2 v3 : Value} {wk : World} (h : HeldF w v0 v1 v2 v3 wk) :
    Calls Tryd.prog 18 #[.agg #[.int .i64 op, .int .i64 vs, .slice A rs.length c, .int .i64 pts]] wk fun e w' => e = .returned (.int .i64 (hpay op vs rs pts)) ∧ Below wk.heap.size wk w' :=
  rpayload_any op vs pts rs A c wk ((hs.below h.1).more h.1.size) hz
include hs hn hfix hg
set_option maxRecDepth 100000 in
set_option maxHeartbeats 8000000 in
theorem lawFormats : Calls Tryd.prog 8 #[.agg #[.int .i64 op, .int .i64 vs, .slice A rs.length c, .int .i64 pts]] w fun e w' => e = .returned (.bool true) ∧ Below w.heap.size w w' := by
  have HF := hide hfix; clear hfix
  have HS := hide hs; clear hs
  have HN := hide hn; clear hn
  go_enter Tryd.func8, Tryd.ntmps8
  go_wp2_with fail
  refine (large_any op vs pts rs.length A c _).mono ?_
  rintro e w1 ⟨rfl, hb1⟩
  have hB1 := bl_step (bl_alloc (Below.refl w.heap.size w) _) hb1
  have B1 := (Blk.new w 25 #[.int .i64 op, .int .i64 vs, .slice A rs.length c, .int .i64 pts]).step hb1
  obtain ⟨g1, g2⟩ := fixed_at w HF.out hg hB1
  by_cases hbig : 200 < rs.length
  · have hd : decide (200 < rs.length) = true := decide_eq_true hbig
    rw [hd]
    go_wp2_with fail
    refine (alive_true _ g1 g2).mono ?_
    rintro e w2 ⟨rfl, hb2⟩
    go_wp2
    go_ret
    exact ⟨rfl, bl_step hB1 hb2⟩
  · have hd : decide (200 < rs.length) = false := decide_eq_false hbig
    rw [hd]
    have G1 := hide g1; clear g1
    have f0 := B1.cell (i := 0) rfl
    have f1 := B1.cell (i := 1) rfl
    have f2 := B1.cell (i := 2) rfl
    have f3 := B1.cell (i := 3) rfl
    go_wp2_with fail
    refine (format_any vs rs A c pts _ ((HS.out.below hB1).more hB1.size) HN.out op).mono ?_
    rintro e w2 ⟨v, rfl, hown, hb2⟩
    have hB2 := bl_step hB1 hb2
    have B2 := B1.step hb2
    obtain ⟨A2, c2, rfl, hc2⟩ := own_slice hown
    have hsl2 := Sl.of_own hown
    clear hown
    have e0 := B2.cell (i := 0) rfl
    have e1 := B2.cell (i := 1) rfl
    have e2 := B2.cell (i := 2) rfl
    have e3 := B2.cell (i := 3) rfl
    go_wp2_with fail
    refine (rformat_any op vs pts rs A c _ ((HS.out.below hB2).more hB2.size)).mono ?_
    rintro e w3 ⟨v, rfl, hown, hb3⟩
    have hB3 := bl_step hB2 hb3
    have B3 := B2.step hb3
    obtain ⟨A3, c3, rfl, hc3⟩ := own_slice hown
    have hsl3 := Sl.of_own hown
    clear hown
    have E := equal_true (hformat op vs rs pts).1 A2 A3 c2 c3 w3 ((hsl2.below hb3).more hb3.size) hsl3
    have HE := hide E; clear E
    have d0 := B3.cell (i := 0) rfl
    have d1 := B3.cell (i := 1) rfl
    have d2 := B3.cell (i := 2) rfl
    have d3 := B3.cell (i := 3) rfl
    go_wp2_with fail
    refine HE.out.mono ?_
    rintro e w4 ⟨rfl, rfl⟩
    have hH : HeldF w (.int .i64 op) (.int .i64 vs) (.slice A rs.length c) (.int .i64 pts) w3 := ⟨hB3, d0, d1, d2, d3⟩
    by_cases hz : hcheck op vs rs pts = 0
    · have hf : (hformat op vs rs pts).2 = 0 := by unfold hformat; rw [if_pos hz]
      rw [hf]
      have HZ := hide hz; clear hz
      have HFF := hide hf; clear hf
      go_wp2_with fail
      go_region_held3 (fun w' => Below w.heap.size w w' ∧ w'.cell? ⟨w.heap.size, 0, none⟩ = some (.int .i64 op) ∧ w'.cell? ⟨w.heap.size, 1, none⟩ = some (.int .i64 vs) ∧ w'.cell? ⟨w.heap.size, 2, none⟩ = some (.slice A rs.length c) ∧ w'.cell? ⟨w.heap.size, 3, none⟩ = some (.int .i64 pts))
        (first | exact keepF (by assumption) (by assumption) | exact keepD (by assumption))
        (first
          | (go_at_call 12; refine (aliveF w HF.out hg (by assumption)).mono ?_; rintro e w' ⟨rfl, hb'⟩)
          | (go_at_call 21; refine (payF op vs pts rs A c w HS.out HN.out HF.out hg (by assumption)).mono ?_; rintro e w' ⟨rfl, hb'⟩)
          | (go_at_call 22; refine (respF op vs pts rs A c w HS.out HN.out (by assumption)).mono ?_; rintro e w' ⟨rfl, hb'⟩)
          | (go_at_call 18; refine (rpayF op vs pts rs A c w HS.out HZ.out (by assumption)).mono ?_; rintro e w' ⟨rfl, hb'⟩)
          | (go_at_call 23; refine (rresponse_any op vs pts rs A c _ HZ.out).mono ?_; rintro e w' ⟨rfl, hb'⟩))
      all_goals go_wp2
      all_goals go_ret
      all_goals exact ⟨rfl, And.left (by assumption)⟩
    · have hf : (hformat op vs rs pts).2 = hcheck op vs rs pts := by unfold hformat; rw [if_neg hz]
      have hp : hpay op vs rs pts = 0 := by unfold hpay; rw [if_neg hz]
      have hr : hresp op vs rs pts = 0 := by unfold hresp; rw [if_neg hz]
      have hz' : (hcheck op vs rs pts != 0) = true := by rw [bne_iff_ne]; exact hz
      rw [hf]
      have HZ := hide hz; clear hz
      have HFF := hide hf; clear hf
      go_wp2_with fail
      refine (aliveF w HF.out hg hH).mono ?_
      rintro e w4 ⟨rfl, hb4⟩
      have hH4 := keepF hb4 hH
      obtain ⟨hB4, p0, p1, p2, p3⟩ := hH4
      go_wp2_with fail
      refine (payF op vs pts rs A c w HS.out HN.out HF.out hg ⟨hB4, p0, p1, p2, p3⟩).mono ?_
      rintro e w5 ⟨rfl, hb5⟩
      rw [hp]
      obtain ⟨hB5, q0, q1, q2, q3⟩ := keepF hb5 (⟨hB4, p0, p1, p2, p3⟩ : HeldF w _ _ _ _ w4)
      go_wp2_with fail
      refine (respF op vs pts rs A c w HS.out HN.out ⟨hB5, q0, q1, q2, q3⟩).mono ?_
      rintro e w6 ⟨rfl, hb6⟩
      rw [hr]
      go_wp2
      go_ret
      exact ⟨rfl, bl_step hB5 hb6⟩
end
end Go.Proofs.YtnnglpohkhjggaaDoor
