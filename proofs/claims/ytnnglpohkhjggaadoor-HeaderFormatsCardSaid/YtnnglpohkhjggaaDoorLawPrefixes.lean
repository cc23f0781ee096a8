/- HeaderPrefixes and HeaderIsCanonical walked. -/
import Derived.Test.YtnnglpohkhjggaaDoorRefFormatAny
import Derived.Test.YtnnglpohkhjggaaDoorHdLaws
import Derived.Test.YtnnglpohkhjggaaDoorBytes
import Derived.Test.YtnnglpohkhjggaaDoorAlive17
namespace Go.Proofs.YtnnglpohkhjggaaDoor
open Go.RowKit

theorem large_any (op vs pts : Int) (n : Nat) (A : Option Addr) (c : Nat) (w : World) :
    Calls Tryd.prog 16 #[.agg #[.int .i64 op, .int .i64 vs, .slice A n c, .int .i64 pts]] w fun e w' => e = .returned (.bool (decide (200 < n))) ∧ Below w.heap.size w w' := by
  go_enter Tryd.func16, Tryd.ntmps16
  go_wp2
  go_ret
  exact ⟨ret_bool (by simp; omega), bl_alloc (Below.refl _ _) _⟩

theorem fbytes_byte {op vs pts : Int} {rs : List Rg} (h : hcheck op vs rs pts = 0) : ∀ (j : Nat) (x : Int), (fbytes op vs rs pts)[j]? = some x → 0 ≤ x ∧ x ≤ 255 := by
  obtain ⟨h1, h2, h3, hv, h4, hl, h5, hp, _⟩ := hcheck_zero h
  intro j x hx
  have hm := List.mem_of_getElem? hx
  unfold fbytes at hm
  simp only [List.mem_append, List.mem_singleton, List.mem_map] at hm
  rcases hm with ((hm | hm) | ⟨r, hr, hm⟩) | hm
  · omega
  · by_cases c3 : op = 3
    · rw [if_pos c3] at hm; simp at hm; have := h3 c3; omega
    · rw [if_neg c3] at hm
      by_cases c4 : 4 ≤ op
      · rw [if_pos c4] at hm; simp at hm; have := h4 c4; omega
      · rw [if_neg c4] at hm; simp at hm
  · by_cases c4 : 4 ≤ op
    · have := verts_ok (h4 c4).2.2 r hr
      subst hm
      unfold fbyte; split <;> omega
    · rw [hl (by omega)] at hr; simp at hr
  · by_cases c5 : op = 5
    · rw [if_pos c5] at hm
      have := h5 c5
      simp at hm
      rcases hm with rfl | rfl <;> omega
    · rw [if_neg c5] at hm; simp at hm
theorem fbytes_len {op vs pts : Int} {rs : List Rg} (h : hcheck op vs rs pts = 0) : 1 ≤ (fbytes op vs rs pts).length ∧ (fbytes op vs rs pts).length ≤ 68 := by
  obtain ⟨h1, h2, h3, hv, h4, hl, h5, hp, _⟩ := hcheck_zero h
  have hn : rs.length ≤ 64 := by
    by_cases c4 : 4 ≤ op
    · exact (h4 c4).2.1
    · rw [hl (by omega)]; simp
  unfold fbytes
  simp only [List.length_append, List.length_map, List.length_singleton]
  constructor
  · omega
  · split <;> (try split) <;> (try split) <;> simp <;> omega

section
variable (op vs pts : Int) (rs : List Rg) (A : Option Addr) (c : Nat) (w : World)
variable (hs : Sl w w.heap.size A (rgCells rs)) (hfix : Fixed w) (hg : 0 < w.heap.size)
include hs hfix hg

set_option maxRecDepth 100000 in
set_option maxHeartbeats 2000000 in
theorem lawPrefixes : Calls Tryd.prog 5 #[.agg #[.int .i64 op, .int .i64 vs, .slice A rs.length c, .int .i64 pts]] w fun e w' => e = .returned (.bool true) ∧ Below w.heap.size w w' := by
  have HF := hide hfix; clear hfix
  have HS := hide hs; clear hs
  go_enter Tryd.func5, Tryd.ntmps5
  go_wp2_with fail
  refine (large_any op vs pts rs.length A c _).mono ?_
  rintro e w1 ⟨rfl, hb1⟩
  have hB1 := bl_step (bl_alloc (Below.refl w.heap.size w) _) hb1
  have B1 := (Blk.new w 25 #[.int .i64 op, .int .i64 vs, .slice A rs.length c, .int .i64 pts]).step hb1
  obtain ⟨g1, g2⟩ := fixed_at w HF.out hg hB1
  by_cases hbig : 200 < rs.length
  · have hd : decide (200 < rs.length) = true := decide_eq_true hbig
    rw [hd]
    go_wp2_with fail
    refine (alive_true _ g1 g2).mono ?_
    rintro e w2 ⟨rfl, hb2⟩
    go_wp2
    go_ret
    exact ⟨rfl, bl_step hB1 hb2⟩
  · have hd : decide (200 < rs.length) = false := decide_eq_false hbig
    rw [hd]
    have G1 := hide g1; clear g1
    have f0 := B1.cell (i := 0) rfl
    have f1 := B1.cell (i := 1) rfl
    have f2 := B1.cell (i := 2) rfl
    have f3 := B1.cell (i := 3) rfl
    go_wp2_with fail
    refine (rformat_any op vs pts rs A c _ ((HS.out.below hB1).more hB1.size)).mono ?_
    rintro e w2 ⟨v, rfl, hown, hb2⟩
    have hB2 := bl_step hB1 hb2
    by_cases hz : hcheck op vs rs pts = 0
    · have hf : hformat op vs rs pts = (fbytes op vs rs pts, 0) := by unfold hformat; rw [if_pos hz]
      rw [hf] at hown ⊢
      dsimp only at hown ⊢
      obtain ⟨hl1, hl2⟩ := fbytes_len hz
      have hfb := fbytes_byte hz
      have hpre := hparse_prefix hz
      have HZ := hide hz; clear hz
      have HFF := hide hf; clear hf
      revert hown hl1 hl2 hfb hpre
      generalize fbytes op vs rs pts = bs
      intro hown hl1 hl2 hfb hpre
      obtain ⟨A2, c2, rfl, hc2⟩ := own_slice hown
      have hsl := Sl.of_own hown
      have HFB := hide hfb; clear hfb
      have HPRE := hide hpre; clear hpre
      clear hown
      go_wp2
      go_loopw [5, 6, 7, 8, 22] (fun _ _ _ _ i wr => ∃ k : Nat, k ≤ bs.length ∧ i = .int .i64 k ∧ Below w2.heap.size w2 wr)
        (fun _ _ _ _ i _ => bs.length - (intOf i).toNat)
      case atStart => exact ⟨0, by omega, rfl, Below.refl _ _⟩
      case round =>
        obtain ⟨k, hk, rfl, hbr⟩ := hrel
        by_cases hlt : k < bs.length
        · go_wp2_with fail
          have P := parse_any (bs.take k) A2 c2 wr (by rw [byCells_take]; exact ((hsl.below hbr).more hbr.size).take k) (by rw [List.length_take]; omega) (fun j x hx => by
            rw [List.getElem?_take] at hx
            split at hx
            · exact HFB.out j x hx
            · cases hx)
          rw [HPRE.out k hlt, show (bs.take k).length = k from by rw [List.length_take]; omega] at P
          refine P.mono ?_
          clear P
          rintro e w3 ⟨A3, c3, rfl, _, hb3⟩
          go_wp2
          go_roundw
          case rel => exact ⟨k + 1, by omega, by go_num, (hbr.trans (hb3.mono hbr.size)).alloc (by have := hbr.size; have := hb3.size; omega) _⟩
          case measure => simp [intOf]; omega
        · have hk' : k = bs.length := by omega
          subst hk'
          obtain ⟨q1, q2⟩ := fixed_at w HF.out hg (bl_step hB2 hbr)
          go_wp2_with fail
          refine (alive_true _ q1 q2).mono ?_
          rintro e w3 ⟨rfl, hb3⟩
          go_wp2
          go_ret
          exact ⟨rfl, bl_step (bl_step hB2 hbr) hb3⟩
    · have hf : hformat op vs rs pts = ([], hcheck op vs rs pts) := by unfold hformat; rw [if_neg hz]
      rw [hf]
      dsimp only
      have hz' : (hcheck op vs rs pts != 0) = true := by rw [bne_iff_ne]; exact hz
      have HZ := hide hz; clear hz hown
      obtain ⟨q1, q2⟩ := fixed_at w HF.out hg hB2
      have Q1 := hide q1; clear q1
      have HFF := hide hf; clear hf
      go_wp2_with fail
      refine (alive_true _ Q1.out q2).mono ?_
      rintro e w3 ⟨rfl, hb3⟩
      go_wp2
      go_ret
      exact ⟨rfl, bl_step hB2 hb3⟩
end
end Go.Proofs.YtnnglpohkhjggaaDoor
