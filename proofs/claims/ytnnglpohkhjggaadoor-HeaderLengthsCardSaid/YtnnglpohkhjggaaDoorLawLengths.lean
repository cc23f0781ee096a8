/- HeaderLengths walked. -/
import Derived.Test.YtnnglpohkhjggaaDoorLawPrefixes
import Derived.Test.YtnnglpohkhjggaaDoorRefPayload
import Derived.Test.YtnnglpohkhjggaaDoorClassify
import Derived.Test.YtnnglpohkhjggaaDoorZeros
namespace Go.Proofs.YtnnglpohkhjggaaDoor
open Go.RowKit

theorem back_full (rs : List Rg) : (rs.map rgBack).any fullRg = false := by
  rw [List.any_eq_false]
  intro r hr
  obtain ⟨q, _, rfl⟩ := List.mem_map.1 hr
  simp [fullRg, rgBack]
theorem back_size (rs : List Rg) : sumSize (rs.map rgBack) = sumSize rs := by
  unfold sumSize; rw [List.map_map]; rfl
theorem back_check {op vs pts : Int} {rs : List Rg} (h : hcheck op vs rs pts = 0) : hcheck op vs (rs.map rgBack) pts = 0 := by
  have hf := (hcheck_zero h).2.2.2.2.2.2.2.2
  unfold hcheck at h ⊢
  rw [back_wrong, back_full, List.length_map]
  rw [hf] at h
  exact h
theorem back_pay {op vs pts : Int} {rs : List Rg} (h : hcheck op vs rs pts = 0) : hpay op vs (rs.map rgBack) pts = hpay op vs rs pts := by
  unfold hpay
  rw [if_pos h, if_pos (back_check h), back_size]
theorem hclass_len {op vs pts : Int} {rs : List Rg} (h : hcheck op vs rs pts = 0) (m : Nat) :
    hclass (fbytes op vs rs pts ++ List.replicate m 0) = if (m : Int) = hpay op vs rs pts then 0 else 8 := by
  unfold hclass
  rw [hparse_format h, if_pos rfl, List.length_append, List.length_replicate, back_pay h]
  by_cases e : (m : Int) = hpay op vs rs pts
  · rw [if_pos e, if_pos (by push_cast; omega)]
  · rw [if_neg e, if_neg (by push_cast; omega)]

section
variable (op vs pts : Int) (rs : List Rg) (A : Option Addr) (c : Nat) (b : Int) (w : World)
variable (hs : Sl w w.heap.size A (rgCells rs)) (hfix : Fixed w) (hg : 0 < w.heap.size)
include hs hfix hg

set_option maxRecDepth 100000 in
set_option maxHeartbeats 8000000 in
theorem lawLengths : Calls Tryd.prog 6 #[.agg #[.int .i64 op, .int .i64 vs, .slice A rs.length c, .int .i64 pts], .int .i16 b] w fun e w' => e = .returned (.bool true) ∧ Below w.heap.size w w' := by
  have HF := hide hfix; clear hfix
  have HS := hide hs; clear hs
  go_enter Tryd.func6, Tryd.ntmps6
  go_wp2_with fail
  refine (large_any op vs pts rs.length A c _).mono ?_
  rintro e w1 ⟨rfl, hb1⟩
  have hB1 := bl_step (bl_alloc (Below.refl w.heap.size w) _) hb1
  have B1 := (Blk.new w 25 #[.int .i64 op, .int .i64 vs, .slice A rs.length c, .int .i64 pts]).step hb1
  obtain ⟨g1, g2⟩ := fixed_at w HF.out hg hB1
  by_cases hbig : 200 < rs.length
  · have hd : decide (200 < rs.length) = true := decide_eq_true hbig
    rw [hd]
    go_wp2_with fail
    refine (alive_true _ g1 g2).mono ?_
    rintro e w2 ⟨rfl, hb2⟩
    go_wp2
    go_ret
    exact ⟨rfl, bl_step hB1 hb2⟩
  · have hd : decide (200 < rs.length) = false := decide_eq_false hbig
    rw [hd]
    have G1 := hide g1; clear g1
    have f0 := B1.cell (i := 0) rfl
    have f1 := B1.cell (i := 1) rfl
    have f2 := B1.cell (i := 2) rfl
    have f3 := B1.cell (i := 3) rfl
    go_wp2_with fail
    refine (rformat_any op vs pts rs A c _ ((HS.out.below hB1).more hB1.size)).mono ?_
    rintro e w2 ⟨v, rfl, hown, hb2⟩
    have hB2 := bl_step hB1 hb2
    have B2 := B1.step hb2
    by_cases hz : hcheck op vs rs pts = 0
    · have hf : hformat op vs rs pts = (fbytes op vs rs pts, 0) := by unfold hformat; rw [if_pos hz]
      rw [hf] at hown ⊢
      dsimp only at hown ⊢
      obtain ⟨hl1, hl2⟩ := fbytes_len hz
      have hfb := fbytes_byte hz
      have hcl := hclass_len hz
      have hpb := hpay_bd op vs rs pts
      have P := rpayload_any op vs pts rs A c w2 ((HS.out.below hB2).more hB2.size) hz
      have HZ := hide hz; clear hz
      have HFF := hide hf; clear hf
      revert hown hl1 hl2 hfb hcl hpb P
      generalize fbytes op vs rs pts = bs
      generalize hpay op vs rs pts = p
      intro hown hl1 hl2 hfb hcl hpb P
      obtain ⟨k2, c2, rfl, hk2, hk2', hc2⟩ := own_form hown (by omega)
      have HFB := hide hfb; clear hfb
      have HCL := hide hcl; clear hcl
      have e0 := B2.cell (i := 0) rfl
      have e1 := B2.cell (i := 1) rfl
      have e2 := B2.cell (i := 2) rfl
      have e3 := B2.cell (i := 3) rfl
      have HP := hide P; clear P
      go_wp2_with fail
      refine HP.out.mono ?_
      rintro e w3 ⟨rfl, hb3⟩
      have hB3 := bl_step hB2 hb3
      have B3 := B2.step hb3
      have hm1 : -64 < b.tmod 64 ∧ b.tmod 64 < 64 := ⟨Int.lt_tmod_of_pos b (by decide), Int.tmod_lt_of_pos b (by decide)⟩
      obtain ⟨q1, q2⟩ := fixed_at w HF.out hg hB3
      have Q1 := hide q1; clear q1
      by_cases hneg : p + b.tmod 64 < 0
      · go_wp2_with fail
        refine (alive_true _ Q1.out q2).mono ?_
        rintro e w4 ⟨rfl, hb4⟩
        go_wp2
        go_ret
        exact ⟨rfl, bl_step hB3 hb4⟩
      · obtain ⟨n, hn⟩ : ∃ n : Nat, (n : Int) = p + b.tmod 64 := ⟨_, Int.toNat_of_nonneg (by omega)⟩
        obtain ⟨v4, w4, hr, hown4, hgrow4⟩ := run_append_zeros (k := n) (ty := 22) (own_step hown hb3) (by omega) (by have := hb2.size; have := hb3.size; omega) (by omega)
        rw [hn] at hr
        have HN := hide hn; clear hn
        have hb4 : Below w1.heap.size w1 w4 := (bl_step hb2 hb3).grown hgrow4 (bl_step hb2 hb3).size (fun k hk => by simp at hk; omega)
        have hB4 := bl_step hB1 hb4
        obtain ⟨A4, c4, rfl, hc4⟩ := own_slice hown4
        go_wp2_with (at_builtin; refine Lib.wpList_append_run _ rfl (.tmp 29) (.tmp 30) 22 3 rfl _ _ rfl rfl _ _ hr ?_)
        go_wp2_with fail
        obtain ⟨r1, r2⟩ := fixed_at w HF.out hg hB4
        have C := classify_any (bs ++ List.replicate n 0) A4 c4 w4 (Sl.of_own hown4) (by rw [List.length_append, List.length_replicate]; exact hc4) (fun j x hx => by
          rw [List.getElem?_append] at hx
          split at hx
          · exact HFB.out j x hx
          · rw [List.getElem?_replicate] at hx; split at hx
            · injection hx with hx; omega
            · cases hx) (by rw [List.length_append, List.length_replicate]; have := HN.out; omega) r1 r2
        rw [HCL.out, HN.out, List.length_append, List.length_replicate] at C
        clear r1 r2 hr hown4 hgrow4
        by_cases hq : b.tmod 64 = 0
        · rw [if_pos (by omega)] at C
          refine C.mono ?_
          rintro e w5 ⟨rfl, hb5⟩
          have hB5 := bl_step hB4 hb5
          obtain ⟨q1, q2⟩ := fixed_at w HF.out hg hB5
          have Q2 := hide q1; clear q1
          go_wp2_with fail
          refine (alive_true _ Q2.out q2).mono ?_
          rintro e w6 ⟨rfl, hb6⟩
          go_wp2
          go_ret
          exact ⟨rfl, bl_step hB5 hb6⟩
        · rw [if_neg (by omega)] at C
          refine C.mono ?_
          rintro e w5 ⟨rfl, hb5⟩
          have hB5 := bl_step hB4 hb5
          obtain ⟨q1, q2⟩ := fixed_at w HF.out hg hB5
          have Q2 := hide q1; clear q1
          go_wp2_with fail
          refine (alive_true _ Q2.out q2).mono ?_
          rintro e w6 ⟨rfl, hb6⟩
          go_wp2
          go_ret
          exact ⟨ret_bool (by simp [hq]), bl_step hB5 hb6⟩
    · have hf : hformat op vs rs pts = ([], hcheck op vs rs pts) := by unfold hformat; rw [if_neg hz]
      rw [hf]
      dsimp only
      have hz' : (hcheck op vs rs pts != 0) = true := by rw [bne_iff_ne]; exact hz
      have HZ := hide hz; clear hz hown
      obtain ⟨q1, q2⟩ := fixed_at w HF.out hg hB2
      have Q1 := hide q1; clear q1
      have HFF := hide hf; clear hf
      go_wp2_with fail
      refine (alive_true _ Q1.out q2).mono ?_
      rintro e w3 ⟨rfl, hb3⟩
      go_wp2
      go_ret
      exact ⟨rfl, bl_step hB2 hb3⟩
end
end Go.Proofs.YtnnglpohkhjggaaDoor
