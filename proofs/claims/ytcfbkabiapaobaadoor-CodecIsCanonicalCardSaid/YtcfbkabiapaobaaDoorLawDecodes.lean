/- CodecDecodes: the law's function returns true. -/
import Derived.Test.YtcfbkabiapaobaaDoorAlive18
import Derived.Test.YtcfbkabiapaobaaDoorDecode
import Derived.Test.YtcfbkabiapaobaaDoorRefDecode
import Derived.Test.YtcfbkabiapaobaaDoorSame18
namespace Go.Proofs.YtcfbkabiapaobaaDoor
open Go.RowKit

theorem regsOf_length : ∀ (rs : List Rg) (bs : List Int), (regsOf rs bs).length = rs.length
  | [], _ => rfl
  | r :: rs, bs => by simp [regsOf, regsOf_length rs]
theorem regsOf_pts : ∀ (rs : List Rg) (bs : List Int), ∀ g ∈ regsOf rs bs, g.2.2.length ≤ 64
  | [], _, g, h => by simp [regsOf] at h
  | r :: rs, bs, g, h => by
    simp only [regsOf, List.mem_cons] at h
    rcases h with rfl | h
    · dsimp only; rw [ptsOf_length]; exact sizeN_le _
    · exact regsOf_pts rs _ g h
/-- the sizes of a request that is decoded -/
structure SmallRq (q : Rq) : Prop where
  n1 : q.h.rs.length ≤ 64
  n2 : q.gs.length ≤ 64
  n3 : q.ps.length ≤ 65
  n4 : q.qs.length ≤ 4096
  n5 : ∀ g ∈ q.gs, g.2.2.length ≤ 64
theorem hdecode_small (bs : List Int) : SmallRq (hdecode bs).1 := by
  unfold hdecode
  by_cases hc : hclass bs = 0
  · rw [if_pos hc]
    obtain ⟨h, n, er, hp⟩ : ∃ h n er, hparse bs = (h, n, er) := ⟨_, _, _, rfl⟩
    obtain ⟨_, hk, _⟩ := dec_facts hp hc
    obtain ⟨_, _, h3, h4, h5⟩ := cnt_bd hk
    rw [hp]
    refine ⟨h3, ?_, ?_, ?_, ?_⟩
    · simp only [rqOf]; rw [regsOf_length]; exact h3
    · simp only [rqOf]; rw [ptsOf_length]; omega
    · simp only [rqOf]; rw [qusOf_length]; omega
    · exact fun g hg => regsOf_pts _ _ g hg
  · rw [if_neg hc]
    exact ⟨by simp [rqZero, phZero], by simp [rqZero], by simp [rqZero], by simp [rqZero], fun g hg => by simp [rqZero] at hg⟩

section
variable (bs : List Int) (A : Option Addr) (c : Nat) (w : World)
variable (hs : Sl w w.heap.size A (byCells bs)) (hcap : bs.length ≤ c) (hcm : c ≤ maxLen) (hby : By bs)
variable (hfix : Fixed w) (hg : 0 < w.heap.size)
include hs hcap hcm hby hfix hg
set_option maxRecDepth 1000000 in
set_option maxHeartbeats 4000000 in
theorem lawDecodes : Calls Tryd.prog 3 #[.slice A bs.length c] w fun e w' => e = .returned (.bool true) ∧ Below w.heap.size w w' := by
  have hbl0 : bs.length ≤ 9223372036854775807 := by unfold maxLen at hcm; omega
  by_cases h5 : 50000 < bs.length
  · have HS := hide hs; have HBY := hide hby; have HF := hide hfix
    clear hs hby hfix hcm
    go_enter Tryd.func3, Tryd.ntmps3
    go_wp2_with fail
    refine (alive18 _).mono ?_
    rintro e w1 ⟨rfl, hb1⟩
    go_wp2
    go_ret
    exact ⟨rfl, hb1⟩
  · have D1 := decode_any bs A c w hs hcap hby (by omega) hfix hg
    have D2 : ∀ w2, Below w.heap.size w w2 → Calls Tryd.prog 8 #[.slice A bs.length c] w2 (Decoded (hdecode bs) w2) := fun w2 hb => rdecode_any bs A c w2 ((hs.below hb).more hb.size) hby (by omega)
    have hsm := hdecode_small bs
    obtain ⟨⟨q, er⟩, hq⟩ : ∃ r, r = hdecode bs := ⟨_, rfl⟩
    rw [← hq] at D1 hsm
    simp only [← hq] at D2
    obtain ⟨n1, n2, n3, n4, n5⟩ := hsm
    dsimp only at n1 n2 n3 n4 n5
    have HD1 := hide D1; have HD2 := hide D2; have HN5 := hide n5
    clear D1 D2 hq hs hby hfix hg hcm n5
    go_enter Tryd.func3, Tryd.ntmps3
    go_wp2_with fail
    refine HD1.out.mono ?_
    rintro e w1 ⟨hrs, HA, hc, gs, GA, gc, PA, pc, QA, qc, rfl, hb1, hr1⟩
    clear HD1
    unfold rqVal
    dsimp only
    obtain ⟨w2, hw2⟩ : ∃ w2, w2 = w1.alloc (.cells #[.int .i64 q.h.op, .int .i64 q.h.vs, .slice HA hrs.length hc, .int .i64 q.h.pts, .slice GA gs.length gc, .slice PA q.ps.length pc, .slice QA q.qs.length qc] 30) := ⟨_, rfl⟩
    have hb2 : Below w1.heap.size w1 w2 := by rw [hw2]; exact bl_alloc (Below.refl _ _) _
    have X2 : Blk w2 w1.heap.size 30 #[.int .i64 q.h.op, .int .i64 q.h.vs, .slice HA hrs.length hc, .int .i64 q.h.pts, .slice GA gs.length gc, .slice PA q.ps.length pc, .slice QA q.qs.length qc] := by rw [hw2]; exact Blk.new _ _ _
    have HB2 := bl_step hb1 hb2
    have D2 := HD2.out w2 HB2
    have HD3 := hide D2
    clear D2 HD2
    go_wp2_with fail
    rw [← hw2]
    have HW2 := hide hw2; clear hw2
    refine HD3.out.mono ?_
    rintro e w3 ⟨hrs', HA', hc', gs', GA', gc', PA', pc', QA', qc', rfl, hb3, hr3⟩
    clear HD3
    unfold rqVal
    dsimp only
    obtain ⟨w4, hw4⟩ : ∃ w4, w4 = w3.alloc (.cells #[.int .i64 q.h.op, .int .i64 q.h.vs, .slice HA' hrs'.length hc', .int .i64 q.h.pts, .slice GA' gs'.length gc', .slice PA' q.ps.length pc', .slice QA' q.qs.length qc'] 34) := ⟨_, rfl⟩
    have hb4 : Below w3.heap.size w3 w4 := by rw [hw4]; exact bl_alloc (Below.refl _ _) _
    have Y4 : Blk w4 w3.heap.size 34 #[.int .i64 q.h.op, .int .i64 q.h.vs, .slice HA' hrs'.length hc', .int .i64 q.h.pts, .slice GA' gs'.length gc', .slice PA' q.ps.length pc', .slice QA' q.qs.length qc'] := by rw [hw4]; exact Blk.new _ _ _
    have X4 := (X2.step hb3).step hb4
    have HB4 := bl_step (bl_step HB2 hb3) hb4
    go_wp2_with fail
    rw [← hw4]
    have HW4 := hide hw4; clear hw4
    refine (alive18 w4).mono ?_
    rintro e w5 ⟨rfl, hb5⟩
    have X5 := X4.step hb5
    have Y5 := Y4.step hb5
    have HB5 := bl_step HB4 hb5
    have q1 : ReadsRq w5 w5.heap.size q hrs HA gs GA PA QA := by
      have b15 : Below w1.heap.size w1 w5 := bl_step (bl_step (bl_step hb2 hb3) hb4) hb5
      exact (hr1.below b15).more b15.size
    have q3 : ReadsRq w5 w5.heap.size q hrs' HA' gs' GA' PA' QA' := by
      have b35 : Below w3.heap.size w3 w5 := bl_step hb4 hb5
      exact (hr3.below b35).more b35.size
    have S := sameRq_true q hrs hrs' HA HA' hc hc' gs gs' GA GA' gc gc' PA PA' pc pc' QA QA' qc qc' w5 q1 q3 (by unfold maxLen; omega) (by unfold maxLen; omega) (by unfold maxLen; omega) (by unfold maxLen; omega) (fun g hg => by have := HN5.out g hg; unfold maxLen; omega)
    unfold rqVal at S
    have HSA := hide S
    clear S q1 q3 hr1 hr3
    have x0 := X5.cell (i := 0) rfl
    have x1 := X5.cell (i := 1) rfl
    have x2 := X5.cell (i := 2) rfl
    have x3 := X5.cell (i := 3) rfl
    have x4 := X5.cell (i := 4) rfl
    have x5 := X5.cell (i := 5) rfl
    have x6 := X5.cell (i := 6) rfl
    have y0 := Y5.cell (i := 0) rfl
    have y1 := Y5.cell (i := 1) rfl
    have y2 := Y5.cell (i := 2) rfl
    have y3 := Y5.cell (i := 3) rfl
    have y4 := Y5.cell (i := 4) rfl
    have y5 := Y5.cell (i := 5) rfl
    have y6 := Y5.cell (i := 6) rfl
    go_wp2_with fail
    refine HSA.out.mono ?_
    rintro e w6 ⟨rfl, hb6⟩
    go_wp2
    go_ret
    exact ⟨rfl, bl_step HB5 hb6⟩
end
end Go.Proofs.YtcfbkabiapaobaaDoor
