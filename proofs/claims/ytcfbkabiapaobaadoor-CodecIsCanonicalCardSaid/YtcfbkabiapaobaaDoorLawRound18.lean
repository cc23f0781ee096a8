/- CodecRoundTrip: the law's function returns true. -/
import Derived.Test.YtcfbkabiapaobaaDoorLawDecodes
import Derived.Test.YtcfbkabiapaobaaDoorRoundMath2
import Derived.Test.YtcfbkabiapaobaaDoorLarge18
namespace Go.Proofs.YtcfbkabiapaobaaDoor
open Go.RowKit

theorem flat_by {α : Type} (f : α → List Int) (h : ∀ a, By (f a)) (l : List α) : By (l.flatMap f) := fun x hx => by
  obtain ⟨a, _, ha⟩ := List.mem_flatMap.1 hx
  exact h a x ha
theorem By.append {a b : List Int} (ha : By a) (hb : By b) : By (a ++ b) := fun x hx => by
  rcases List.mem_append.1 hx with h | h
  · exact ha x h
  · exact hb x h
theorem pt16_by (p : Int × Int) : By (pt16 p) := (word8_by _).append (word8_by _)
theorem q24_by (q : (Int × Int) × Int) : By (q24 q) := (pt16_by _).append (word8_by _)
/-- the bytes of a request are bytes, and not many -/
theorem hencode_ok {op vs pts : Int} {hrs : List Rg} {gs : List Gr} {ps : List (Int × Int)} {qs : List ((Int × Int) × Int)} {b : List Int} {er : Int} (h : hencode op vs hrs pts gs ps qs = (b, er)) (hn : ∀ g ∈ gs, g.1.n = g.2.length) :
    (er ≠ 0 → b = []) ∧ (er = 0 → b.length ≤ 200000 ∧ By b) := by
  unfold hencode at h
  by_cases hc : hcheck op vs hrs pts = 0
  · rw [if_neg (by simpa using hc)] at h
    by_cases ha : gs.length ≠ hrs.length ∨ (ps.length : Int) ≠ cntP op vs ∨ (qs.length : Int) ≠ cntQ op pts
    · rw [if_pos ha] at h
      simp only [Prod.mk.injEq] at h
      exact ⟨fun _ => h.1.symm, fun e => by omega⟩
    · rw [if_neg ha] at h
      cases hs : (gs.zip hrs).any szBad with
      | true =>
        rw [hs, if_pos rfl] at h
        simp only [Prod.mk.injEq] at h
        exact ⟨fun _ => h.1.symm, fun e => by omega⟩
      | false =>
        rw [hs, if_neg (by simp)] at h
        cases hk : (gs.zip hrs).any kdBad with
        | true =>
          rw [hk, if_pos rfl] at h
          simp only [Prod.mk.injEq] at h
          exact ⟨fun _ => h.1.symm, fun e => by omega⟩
        | false =>
          rw [hk, if_neg (by simp)] at h
          simp only [Prod.mk.injEq] at h
          refine ⟨fun e => absurd h.2.symm e, fun _ => ?_⟩
          rw [← h.1]
          obtain ⟨_, _, hl64, hcP, hcQ⟩ := cnt_bd hc
          have hl1 : gs.length = hrs.length := by omega
          have hsm := gs_small hs hl1
          have hgl := gBytes_len gs (fun x hx => by have h1 := hn x hx; have h2 := hsm x hx; omega)
          have hfl := fbytes_le op vs hrs pts
          constructor
          · rw [List.length_append, List.length_append, List.length_append, flat_len pt16 16 pt16_length, flat_len q24 24 q24_length]; omega
          · refine By.append (By.append (By.append ?_ ?_) (flat_by _ pt16_by _)) (flat_by _ q24_by _)
            · intro x hx
              obtain ⟨j, hj⟩ := List.getElem?_of_mem hx
              exact fbytes_byte hc j x hj
            · exact flat_by _ (fun g => flat_by _ pt16_by _) _
  · rw [if_pos hc] at h
    simp only [Prod.mk.injEq] at h
    exact ⟨fun _ => h.1.symm, fun e => absurd (h.2.trans e) hc⟩

section
variable (op vs pts : Int) (hrs : List Rg) (HA : Option Addr) (hc : Nat) (gs : List Gr) (GA : Option Addr) (gc : Nat) (ps : List (Int × Int)) (PA : Option Addr) (pc : Nat) (qs : List ((Int × Int) × Int)) (QA : Option Addr) (qc : Nat) (w : World)
variable (hh : Sl w w.heap.size HA (rgCells hrs)) (hgc : Sl w w.heap.size GA (rgCells (gs.map (·.1)))) (hgs : GsOk w w.heap.size gs) (hps : Sl w w.heap.size PA (ptCs ps)) (hqs : Sl w w.heap.size QA (quCs qs))
variable (hq1 : ∀ g ∈ gs, ∀ p ∈ g.2, P64 p) (hq2 : ∀ p ∈ ps, P64 p) (hq3 : ∀ q ∈ qs, P64 q.1 ∧ U64 q.2)
variable (hn : hrs.length ≤ maxLen) (hgn : gs.length ≤ maxLen) (hfix : Fixed w) (hfg : 0 < w.heap.size)
include hh hgc hgs hps hqs hq1 hq2 hq3 hn hgn hfix hfg
set_option maxRecDepth 1000000 in
set_option maxHeartbeats 4000000 in
theorem lawRound18 : Calls Tryd.prog 4 #[.agg #[.int .i64 op, .int .i64 vs, .slice HA hrs.length hc, .int .i64 pts, .slice GA gs.length gc, .slice PA ps.length pc, .slice QA qs.length qc]] w fun e w' => e = .returned (.bool true) ∧ Below w.heap.size w w' := by
  have hlen : ∀ g ∈ gs, g.1.n = g.2.length := fun g hg => (hgs g hg).1
  obtain ⟨w0, hw0⟩ : ∃ w0, w0 = w.alloc (.cells #[.int .i64 op, .int .i64 vs, .slice HA hrs.length hc, .int .i64 pts, .slice GA gs.length gc, .slice PA ps.length pc, .slice QA qs.length qc] 39) := ⟨_, rfl⟩
  have hb0 : Below w.heap.size w w0 := by rw [hw0]; exact bl_alloc (Below.refl _ _) _
  have B0 : Blk w0 w.heap.size 39 #[.int .i64 op, .int .i64 vs, .slice HA hrs.length hc, .int .i64 pts, .slice GA gs.length gc, .slice PA ps.length pc, .slice QA qs.length qc] := by rw [hw0]; exact Blk.new _ _ _
  obtain ⟨⟨bsr, er⟩, hr⟩ : ∃ r, hencode op vs hrs pts gs ps qs = r := ⟨_, rfl⟩
  have hok := hencode_ok hr hlen
  have RQ : ∀ w', Below w.heap.size w w' → ∀ q : Rq, q.h.rs.map Rg.key = hrs.map Rg.key → q.gs = gs.map gdOf → q.ps = ps → q.qs = qs → ReadsRq w' w'.heap.size q hrs HA gs GA PA QA :=
    fun w' hb q e1 e2 e3 e4 => ⟨(hh.below hb).more hb.size, e1.symm, (hgc.below hb).more hb.size, fun g hg => ⟨(hgs g hg).1, ((hgs g hg).2.below hb).more hb.size⟩, e2.symm, by rw [e3]; exact (hps.below hb).more hb.size, by rw [e4]; exact (hqs.below hb).more hb.size⟩
  have EN : ∀ w', Below w.heap.size w w' → Calls Tryd.prog 11 #[.agg #[.int .i64 op, .int .i64 vs, .slice HA hrs.length hc, .int .i64 pts, .slice GA gs.length gc, .slice PA ps.length pc, .slice QA qs.length qc]] w' (Formatted (bsr, er) w') := fun w' hb => by
    rw [← hr]
    exact encode_any op vs pts hrs HA hc gs GA gc ps PA pc qs QA qc w' ((hh.below hb).more hb.size) ((hgc.below hb).more hb.size) (fun g hg => ⟨(hgs g hg).1, ((hgs g hg).2.below hb).more hb.size⟩) ((hps.below hb).more hb.size) ((hqs.below hb).more hb.size) hn
  have L := large18 op vs pts hrs HA hc gs GA gc ps PA pc qs QA qc w0 ((hgc.below hb0).more hb0.size) hgn
  have FX : ∀ w', Below w.heap.size w w' → Fixed w' ∧ 0 < w'.heap.size := fun w' hb => ⟨hfix.below hb hfg, Nat.lt_of_lt_of_le hfg hb.size⟩
  have HL := hide L; have HEN := hide EN; have HRQ := hide RQ; have HOK := hide hok; have HFX := hide FX
  have HRT : Hid (er = 0 → hdecode bsr = (⟨⟨op, vs, hrs.map rgBack, pts⟩, gs.map gdOf, ps, qs⟩, 0) ∧ (hrs.map rgBack).map Rg.key = hrs.map Rg.key) := hide fun e => hdecode_encode (by rw [hr, e]) hlen hq1 hq2 hq3
  have HSM := hide (hdecode_small bsr)
  clear L EN RQ hok FX hr hlen hh hgc hgs hps hqs hq1 hq2 hq3 hn hgn hfix hfg
  go_enter Tryd.func4, Tryd.ntmps4
  go_wp2_with fail
  rw [← hw0]
  have HW0 := hide hw0; clear hw0
  refine HL.out.mono ?_
  rintro e w1 ⟨b, rfl, hb1⟩
  have HB1 := bl_step hb0 hb1
  have B1 := B0.step hb1
  have b0 := B1.cell (i := 0) rfl
  have b1 := B1.cell (i := 1) rfl
  have b2 := B1.cell (i := 2) rfl
  have b3 := B1.cell (i := 3) rfl
  have b4 := B1.cell (i := 4) rfl
  have b5 := B1.cell (i := 5) rfl
  have b6 := B1.cell (i := 6) rfl
  cases b
  · have E1 := hide (HEN.out w1 HB1)
    clear HEN
    go_wp2_with fail
    refine E1.out.mono ?_
    rintro e w2 ⟨v, rfl, hv, hb2⟩
    clear E1
    dsimp only at hv ⊢
    obtain ⟨VA, vc, rfl, hvc⟩ := own_slice hv
    have HB2 := bl_step HB1 hb2
    have HSV : Hid (Sl w2 w2.heap.size VA (byCells bsr)) := hide (Sl.of_own hv)
    clear hv b0 b1 b2 b3 b4 b5 b6
    have B2 := B1.step hb2
    by_cases he : er = 0
    · obtain ⟨hbl, hby⟩ := HOK.out.2 he
      obtain ⟨hdc, hkey⟩ := HRT.out he
      have hsm := HSM.out
      rw [hdc] at hsm
      obtain ⟨n1, n2, n3, n4, n5⟩ := hsm
      dsimp only at n1 n2 n3 n4 n5
      have D1 := decode_any bsr VA vc w2 HSV.out hvc hby (by omega) (HFX.out w2 HB2).1 (HFX.out w2 HB2).2
      rw [hdc] at D1
      have HD1 := hide D1; have HKEY := hide hkey; have HN5 := hide n5
      subst he
      clear D1 hdc hkey hby n5 HRT HOK
      go_wp2_with fail
      refine HD1.out.mono ?_
      rintro e w3 ⟨hrs', HA', hc', gs', GA', gc', PA', pc', QA', qc', rfl, hb3, hr3⟩
      clear HD1
      unfold rqVal
      dsimp only
      obtain ⟨w4, hw4⟩ : ∃ w4, w4 = w3.alloc (.cells #[.int .i64 op, .int .i64 vs, .slice HA' hrs'.length hc', .int .i64 pts, .slice GA' gs'.length gc', .slice PA' ps.length pc', .slice QA' qs.length qc'] 30) := ⟨_, rfl⟩
      have hb4 : Below w3.heap.size w3 w4 := by rw [hw4]; exact bl_alloc (Below.refl _ _) _
      have Y4 : Blk w4 w3.heap.size 30 #[.int .i64 op, .int .i64 vs, .slice HA' hrs'.length hc', .int .i64 pts, .slice GA' gs'.length gc', .slice PA' ps.length pc', .slice QA' qs.length qc'] := by rw [hw4]; exact Blk.new _ _ _
      have B4 := (B2.step hb3).step hb4
      have HB4 := bl_step (bl_step HB2 hb3) hb4
      go_wp2_with fail
      rw [← hw4]
      have HW4 := hide hw4; clear hw4
      refine (alive18 w4).mono ?_
      rintro e w5 ⟨rfl, hb5⟩
      have B5 := B4.step hb5
      have Y5 := Y4.step hb5
      have HB5 := bl_step HB4 hb5
      have q3 : ReadsRq w5 w5.heap.size ⟨⟨op, vs, hrs.map rgBack, pts⟩, gs.map gdOf, ps, qs⟩ hrs' HA' gs' GA' PA' QA' := by
        have b35 : Below w3.heap.size w3 w5 := bl_step hb4 hb5
        exact (hr3.below b35).more b35.size
      have q1 := HRQ.out w5 HB5 ⟨⟨op, vs, hrs.map rgBack, pts⟩, gs.map gdOf, ps, qs⟩ HKEY.out rfl rfl rfl
      have S := sameRq_true ⟨⟨op, vs, hrs.map rgBack, pts⟩, gs.map gdOf, ps, qs⟩ hrs' hrs HA' HA hc' hc gs' gs GA' GA gc' gc PA' PA pc' pc QA' QA qc' qc w5 q3 q1 (by unfold maxLen; dsimp only; omega) (by unfold maxLen; dsimp only; omega) (by unfold maxLen; dsimp only; omega) (by unfold maxLen; dsimp only; omega) (fun g hg => by have := HN5.out g hg; unfold maxLen; omega)
      unfold rqVal at S
      dsimp only at S
      have HSA := hide S
      clear S q1 q3 hr3 HRQ
      have x0 := B5.cell (i := 0) rfl
      have x1 := B5.cell (i := 1) rfl
      have x2 := B5.cell (i := 2) rfl
      have x3 := B5.cell (i := 3) rfl
      have x4 := B5.cell (i := 4) rfl
      have x5 := B5.cell (i := 5) rfl
      have x6 := B5.cell (i := 6) rfl
      have y0 := Y5.cell (i := 0) rfl
      have y1 := Y5.cell (i := 1) rfl
      have y2 := Y5.cell (i := 2) rfl
      have y3 := Y5.cell (i := 3) rfl
      have y4 := Y5.cell (i := 4) rfl
      have y5 := Y5.cell (i := 5) rfl
      have y6 := Y5.cell (i := 6) rfl
      go_wp2_with fail
      refine HSA.out.mono ?_
      rintro e w6 ⟨rfl, hb6⟩
      go_wp2
      go_ret
      exact ⟨rfl, bl_step HB5 hb6⟩
    · have hne : (er != 0) = true := by simpa using he
      have hnil := HOK.out.1 he
      subst hnil
      clear he HRT HOK
      go_wp2_with fail
      refine (alive18 w2).mono ?_
      rintro e w5 ⟨rfl, hb5⟩
      go_wp2
      go_ret
      exact ⟨rfl, bl_step HB2 hb5⟩
  · go_wp2_with fail
    refine (alive18 w1).mono ?_
    rintro e w5 ⟨rfl, hb5⟩
    go_wp2
    go_ret
    exact ⟨rfl, bl_step HB1 hb5⟩
end
end Go.Proofs.YtcfbkabiapaobaaDoor
