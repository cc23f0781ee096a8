/- HeaderRoundTrip walked. -/
import Derived.Test.YtnnglpohkhjggaaDoorLawPrefixes
import Derived.Test.YtnnglpohkhjggaaDoorSame
import Derived.Laws.AppendOwnNone
namespace Go.Proofs.YtnnglpohkhjggaaDoor
open Go.RowKit

theorem key_back {rs : List Rg} (h : rs.any fullRg = false) : (rs.map rgBack).map Rg.key = rs.map Rg.key := by
  rw [List.map_map]
  refine List.map_congr_left fun r hr => ?_
  have h1 := List.any_eq_false.1 h r hr
  unfold fullRg at h1
  have : r.n = 0 := by simpa using h1
  simp [Rg.key, rgBack, this]

section
variable (op vs pts : Int) (rs : List Rg) (A : Option Addr) (c : Nat) (rest : List Int) (A' : Option Addr) (c' : Nat) (w : World)
variable (hs : Sl w w.heap.size A (rgCells rs)) (hs' : Sl w w.heap.size A' (byCells rest)) (hnil : A' = none → rest = [] ∧ c' = 0) (hby : ∀ (j : Nat) (x : Int), rest[j]? = some x → 0 ≤ x ∧ x ≤ 255) (hreach : rest.length ≤ 140737488351232)
variable (hn : rs.length ≤ maxLen) (hfix : Fixed w) (hg : 0 < w.heap.size)
include hs hs' hnil hby hreach hn hfix hg

set_option maxRecDepth 100000 in
set_option maxHeartbeats 4000000 in
theorem lawRound : Calls Tryd.prog 7 #[.agg #[.int .i64 op, .int .i64 vs, .slice A rs.length c, .int .i64 pts], .slice A' rest.length c'] w fun e w' => e = .returned (.bool true) ∧ Below w.heap.size w w' := by
  have HF := hide hfix; clear hfix
  have HS := hide hs; clear hs
  have HS' := hide hs'; clear hs'
  have HN := hide hn; clear hn
  have HNIL := hide hnil; clear hnil
  have HBY := hide hby; clear hby
  go_enter Tryd.func7, Tryd.ntmps7
  go_wp2_with fail
  refine (large_any op vs pts rs.length A c _).mono ?_
  rintro e w1 ⟨rfl, hb1⟩
  have hB1 := bl_step (bl_alloc (Below.refl w.heap.size w) _) hb1
  have B1 := (Blk.new w 25 #[.int .i64 op, .int .i64 vs, .slice A rs.length c, .int .i64 pts]).step hb1
  by_cases hbig : 200 < rs.length
  · have hd : decide (200 < rs.length) = true := decide_eq_true hbig
    rw [hd]
    go_wp2_with fail
    obtain ⟨g1, g2⟩ := fixed_at w HF.out hg hB1
    refine (alive_true _ g1 g2).mono ?_
    rintro e w2 ⟨rfl, hb2⟩
    go_wp2
    go_ret
    exact ⟨rfl, bl_step hB1 hb2⟩
  · have hd : decide (200 < rs.length) = false := decide_eq_false hbig
    rw [hd]
    have f0 := B1.cell (i := 0) rfl
    have f1 := B1.cell (i := 1) rfl
    have f2 := B1.cell (i := 2) rfl
    have f3 := B1.cell (i := 3) rfl
    go_wp2_with fail
    refine (format_any vs rs A c pts _ ((HS.out.below hB1).more hB1.size) HN.out op).mono ?_
    rintro e w2 ⟨v, rfl, hown, hb2⟩
    have hB2 := bl_step hB1 hb2
    have B2 := B1.step hb2
    by_cases hz : hcheck op vs rs pts = 0
    · have hf : hformat op vs rs pts = (fbytes op vs rs pts, 0) := by unfold hformat; rw [if_pos hz]
      rw [hf] at hown ⊢
      dsimp only at hown ⊢
      obtain ⟨hl1, hl2⟩ := fbytes_len hz
      have hfb := fbytes_byte hz
      have hround := hparse_format hz rest
      have hfull := (hcheck_zero hz).2.2.2.2.2.2.2.2
      have HZ := hide hz; clear hz
      have HFF := hide hf; clear hf
      have HFULL := hide hfull; clear hfull
      revert hown hl1 hl2 hfb hround
      generalize fbytes op vs rs pts = bs
      intro hown hl1 hl2 hfb hround
      obtain ⟨k2, c2, rfl, hk2, hk2', hc2⟩ := own_form hown (by omega)
      have hcells := hown.cells (g := k2) rfl
      have hsl := Sl.of_own hown
      have HFB := hide hfb; clear hfb
      have HR := hide hround; clear hround
      clear hown
      obtain ⟨i0, hi, hz0, hz1, hz2⟩ := info_parts u8_info
      go_wp2_with (at_builtin; refine wpList_append_own _ rfl (.tmp 27) (.tmp 28) 22 rfl w2.heap.size 5 i0 (.int .u8 0) 1 1 Tryd.underlying22 hi hz0 ‹_› hz2 rfl (by decide) (.slice (some ⟨w2.heap.size, 0, none⟩) 0 0) 0 [] rfl (own_of_blk (xs := []) (Blk.new _ _ _) (Nat.le_refl _) rfl (by unfold maxLen; omega)) ⟨k2, 0, none⟩ bs.length c2 (byCells bs) rfl ?c1 ?c2 ?c3 ?c4 ?c5 ?c6 ?_)
      case c1 => simp [byCells]
      case c2 => intro j u hu; rw [World.cell?_alloc_lt _ _ _ (by simp [Addr.add]; split <;> exact hk2')]; exact hcells j u hu
      case c3 => exact byCells_one _
      case c4 => unfold maxLen; omega
      case c5 => omega
      case c6 => simp
      intro v3 w3 hown3 hgrow3 _
      have hb3 : Below w2.heap.size w2 w3 := (bl_alloc (Below.refl _ _) _).grown hgrow3 (by simp) (fun k hk => by simp [Value.ownBlock] at hk; omega)
      have hB3 := hB2.trans (hb3.mono hB2.size)
      have B3 := B2.step hb3
      clear hcells hsl hgrow3
      have hs3 := HS'.out.below hB3
      obtain ⟨k3, c3, rfl, hk3, hk3', hc3⟩ := own_form hown3 (by omega)
      cases A' with
      | none =>
        obtain ⟨rfl, rfl⟩ := HNIL.out rfl
        go_wp2_with (refine wpList_append_own_none rfl (.tmp 29) (.tmp 30) 22 rfl w2.heap.size 5 i0 1 Tryd.underlying22 hi _ _ _ rfl hown3 rfl ?_)
        obtain ⟨A4, hA4⟩ : ∃ A4, A4 = some (Addr.mk k3 0 none) := ⟨_, rfl⟩
        obtain ⟨c4, rfl⟩ : ∃ c4, c4 = c3 := ⟨_, rfl⟩
        obtain ⟨w4, rfl⟩ : ∃ w4, w4 = w3 := ⟨_, rfl⟩
        have hc4 := hc3
        have hb4 : Below w2.heap.size w4 w4 := Below.refl _ _
        have hown4 : w4.ownsRow w2.heap.size 5 1 (.slice A4 bs.length c4) bs.length (byCells bs) := by rw [hA4]; simpa using hown3
        rw [← hA4]
        clear hown3 hA4
        have hsl4 := Sl.of_own hown4
        have hB4 : Below w.heap.size w w4 := hB3.trans (hb4.mono hB2.size)
        have B4 := B3.below hb4 B2.lt
        have P := parse_any (bs) A4 c4 w4 hsl4 (hc4) (HFB.out)
        have hr' := HR.out
        rw [List.append_nil] at hr'
        rw [hr'] at P
        clear hr'
        refine P.mono ?_
        clear P
        rintro e w5 ⟨A5, c5, rfl, hsl5, hb5⟩
        dsimp only at hsl5 ⊢
        rw [List.length_map]
        have hB5 := bl_alloc (bl_step hB4 hb5) (.cells #[.int .i64 op, .int .i64 vs, .slice A5 rs.length c5, .int .i64 pts] 25)
        clear hown4
        go_wp2_with fail
        obtain ⟨q1, q2⟩ := fixed_at w HF.out hg hB5
        refine (alive_true _ q1 q2).mono ?_
        clear q1 q2
        rintro e w6 ⟨rfl, hb6⟩
        have B6 := ((B4.step hb5).alloc (.cells #[.int .i64 op, .int .i64 vs, .slice A5 rs.length c5, .int .i64 pts] 25)).step hb6
        have C6 := (Blk.new w5 25 #[.int .i64 op, .int .i64 vs, .slice A5 rs.length c5, .int .i64 pts]).step hb6
        have hB6 := bl_step hB5 hb6
        have f60 := B6.cell (i := 0) rfl
        have f61 := B6.cell (i := 1) rfl
        have f62 := B6.cell (i := 2) rfl
        have f63 := B6.cell (i := 3) rfl
        have g60 := C6.cell (i := 0) rfl
        have g61 := C6.cell (i := 1) rfl
        have g62 := C6.cell (i := 2) rfl
        have g63 := C6.cell (i := 3) rfl
        have hs6 := ((hsl5.below ((bl_alloc (Below.refl _ _) _).trans (hb6.mono (by simp)))).more (B' := w6.heap.size) (by have := C6.lt; omega))
        have SM := same_true op vs pts (rs.map rgBack) rs A5 A c5 c w6 hs6 ((HS.out.below hB6).more hB6.size) (key_back HFULL.out) (by rw [List.length_map]; exact HN.out)
        rw [List.length_map] at SM
        have HSM := hide SM; clear SM
        go_wp2_with fail
        refine HSM.out.mono ?_
        rintro e w7 ⟨rfl, hb7⟩
        go_wp2
        go_ret
        exact ⟨rfl, bl_step hB6 hb7⟩
      | some ad =>
        have hnews : ∀ j u, (byCells rest)[j]? = some u → w3.cell? (ad.add j) = some u := by
          rcases hs3 with h0 | ⟨b, off, hA, _, hc⟩
          · intro j u hu; rw [h0] at hu; simp at hu
          · injection hA with hA
            subst hA
            intro j u hu
            rw [show (⟨b, off, none⟩ : Addr).add j = ⟨b, off + j, none⟩ from by unfold Addr.add; split <;> simp_all]
            exact hc j u hu
        go_wp2_with (at_builtin; refine wpList_append_own _ rfl (.tmp 29) (.tmp 30) 22 rfl w2.heap.size 5 i0 (.int .u8 0) 1 1 Tryd.underlying22 hi hz0 ‹_› hz2 rfl (by decide) _ _ _ rfl hown3 ad rest.length c' (byCells rest) rfl ?d1 ?d2 ?d3 ?d4 ?d5 ?d6 ?_)
        case d1 => simp [byCells]
        case d2 => exact hnews
        case d3 => exact byCells_one _
        case d4 => unfold maxLen; omega
        case d5 => omega
        case d6 => exact hb3.size
        intro v4 w4 hown4 hgrow4 _
        have hb4 : Below w2.heap.size w3 w4 := (Below.refl _ _).grown hgrow4 hb3.size (fun k hk => by simp [Value.ownBlock] at hk; omega)
        obtain ⟨A4, c4, rfl, hc4⟩ := own_slice hown4
        rw [← byCells_append] at hown4
        clear hgrow4 hnews hown3
        go_wp2_with fail
        have hsl4 := Sl.of_own hown4
        have hB4 : Below w.heap.size w w4 := hB3.trans (hb4.mono hB2.size)
        have B4 := B3.below hb4 B2.lt
        have P := parse_any (bs ++ rest) A4 c4 w4 hsl4 (by rw [List.length_append]; exact hc4) (fun j x hx => by
          rw [List.getElem?_append] at hx
          split at hx
          · exact HFB.out j x hx
          · exact HBY.out _ x hx)
        rw [HR.out, List.length_append] at P
        refine P.mono ?_
        clear P
        rintro e w5 ⟨A5, c5, rfl, hsl5, hb5⟩
        dsimp only at hsl5 ⊢
        rw [List.length_map]
        have hB5 := bl_alloc (bl_step hB4 hb5) (.cells #[.int .i64 op, .int .i64 vs, .slice A5 rs.length c5, .int .i64 pts] 25)
        clear hown4
        go_wp2_with fail
        obtain ⟨q1, q2⟩ := fixed_at w HF.out hg hB5
        refine (alive_true _ q1 q2).mono ?_
        clear q1 q2
        rintro e w6 ⟨rfl, hb6⟩
        have B6 := ((B4.step hb5).alloc (.cells #[.int .i64 op, .int .i64 vs, .slice A5 rs.length c5, .int .i64 pts] 25)).step hb6
        have C6 := (Blk.new w5 25 #[.int .i64 op, .int .i64 vs, .slice A5 rs.length c5, .int .i64 pts]).step hb6
        have hB6 := bl_step hB5 hb6
        have f60 := B6.cell (i := 0) rfl
        have f61 := B6.cell (i := 1) rfl
        have f62 := B6.cell (i := 2) rfl
        have f63 := B6.cell (i := 3) rfl
        have g60 := C6.cell (i := 0) rfl
        have g61 := C6.cell (i := 1) rfl
        have g62 := C6.cell (i := 2) rfl
        have g63 := C6.cell (i := 3) rfl
        have hs6 := ((hsl5.below ((bl_alloc (Below.refl _ _) _).trans (hb6.mono (by simp)))).more (B' := w6.heap.size) (by have := C6.lt; omega))
        have SM := same_true op vs pts (rs.map rgBack) rs A5 A c5 c w6 hs6 ((HS.out.below hB6).more hB6.size) (key_back HFULL.out) (by rw [List.length_map]; exact HN.out)
        rw [List.length_map] at SM
        have HSM := hide SM; clear SM
        go_wp2_with fail
        refine HSM.out.mono ?_
        rintro e w7 ⟨rfl, hb7⟩
        go_wp2
        go_ret
        exact ⟨rfl, bl_step hB6 hb7⟩
    · have hf : hformat op vs rs pts = ([], hcheck op vs rs pts) := by unfold hformat; rw [if_neg hz]
      rw [hf] at hown ⊢
      dsimp only at hown ⊢
      have hz' : (hcheck op vs rs pts != 0) = true := by rw [bne_iff_ne]; exact hz
      obtain ⟨A2, c2, rfl, _⟩ := own_slice hown
      have HZ := hide hz; clear hz hown
      have HFF := hide hf; clear hf
      obtain ⟨q1, q2⟩ := fixed_at w HF.out hg hB2
      have Q1 := hide q1; clear q1
      go_wp2_with fail
      refine (alive_true _ Q1.out q2).mono ?_
      rintro e w3 ⟨rfl, hb3⟩
      go_wp2
      go_ret
      exact ⟨rfl, bl_step hB2 hb3⟩
end
end Go.Proofs.YtnnglpohkhjggaaDoor
