/- DecimalParses: Parse returns the same integer, or the same error, as the reference. -/
import Derived.Test.YthdpbmpdiaencaaDoorRefParse10
import Derived.Test.YthdpbmpdiaencaaDoorDecText
import Derived.Test.YthdpbmpdiaencaaDoorSame03
namespace Go.Proofs.YthdpbmpdiaencaaDoor
open Go.RowKit

/-- the words that Parse returns -/
def pWs (s : List UInt8) (n : Int) : List Int := if pErr s n = 0 then lims n.toNat (pVal s) else []
theorem parsed_form {s : List UInt8} {n : Int} {w w' : World} {e : Ending} (h : Parsed10 s n w e w') :
    Below w.heap.size w w' ∧ ∃ A c, e = .returned (.tuple #[.slice A (pWs s n).length c, .int .i64 (pErr s n)]) ∧ Sl w' w'.heap.size A (uCs (pWs s n)) := by
  obtain ⟨hb, ⟨h0, A, c, rfl, hs⟩ | ⟨h0, rfl⟩⟩ := h
  · refine ⟨hb, A, c, ?_, ?_⟩
    · unfold pWs; rw [if_pos h0, lims_length, h0]
    · unfold pWs; rw [if_pos h0]; exact hs
  · refine ⟨hb, none, 0, ?_, ?_⟩
    · unfold pWs; rw [if_neg h0]; rfl
    · unfold pWs; rw [if_neg h0]; exact .inl rfl
theorem pErr_range (s : List UInt8) (n : Int) : 0 ≤ pErr s n ∧ pErr s n ≤ 9 := by
  unfold pErr
  split
  · decide
  · split
    · decide
    · split
      · decide
      · split <;> decide
theorem pWs_len (s : List UInt8) (n : Int) : (pWs s n).length ≤ 8 := by
  unfold pWs
  split
  · rename_i h
    rw [lims_length]
    unfold pErr at h
    split at h
    · exact absurd h (by decide)
    · omega
  · simp
set_option maxRecDepth 100000 in
set_option maxHeartbeats 2000000 in
theorem lawParses04 (s : ByteArray) (n : Int) (hs : s.size ≤ maxLen) (w : World) (hw : MWords w) (hwg : 2 < w.heap.size) :
    Calls Tryd.prog 4 #[.string s, .int .i64 n] w fun e w' => e = .returned (.bool true) ∧ Below w.heap.size w w' := by
  have P := hide (parse_dec s n hs w hw hwg)
  have AL : Hid (∀ wx, Below w.heap.size w wx → Calls Tryd.prog 9 #[] wx fun e w' => e = .returned (.bool true) ∧ Below wx.heap.size wx w') := hide fun wx hb =>
    alive_true wx (words_at hw hwg hb).1 (words_at hw hwg hb).2
  clear hw hwg
  by_cases hl : 1000 < (s.size : Int)
  · go_enter Tryd.func4, Tryd.ntmps4
    go_wp2_with fail
    refine (AL.out _ (Below.refl _ _)).mono ?_
    rintro e w1 ⟨rfl, hb1⟩
    go_wp2
    go_ret
    exact ⟨rfl, hb1⟩
  · have R := hide (rparse_any s n (by omega))
    obtain ⟨k, hk⟩ : ∃ k, k = pErr s.data.toList n := ⟨_, rfl⟩
    obtain ⟨xs, hxs⟩ : ∃ xs, xs = pWs s.data.toList n := ⟨_, rfl⟩
    have hlen := pWs_len s.data.toList n
    have hkr := pErr_range s.data.toList n
    rw [← hk] at hkr
    rw [← hxs] at hlen
    obtain ⟨L, hL⟩ : ∃ L, L = xs.length := ⟨_, rfl⟩
    have hkw : IntKind.i64.wrap k = k := by rw [IntKind.wrap_i64]; omega
    have PF : Hid (∀ (wx wy : World) (e : Ending), Parsed10 s.data.toList n wx e wy → Below wx.heap.size wx wy ∧ ∃ A c, e = .returned (.tuple #[.slice A L c, .int .i64 k]) ∧ Sl wy wy.heap.size A (uCs xs)) := hide fun wx wy e h => by
      have h2 := parsed_form h
      rw [← hxs, ← hk, ← hL] at h2
      exact h2
    have HL := hide hL
    clear hk hxs hL
    go_enter Tryd.func4, Tryd.ntmps4
    go_wp2_with fail
    refine P.out.mono ?_
    intro e w1 h
    obtain ⟨hb1, A1, c1, rfl, hs1⟩ := PF.out _ _ _ h
    have HS1 := hide hs1
    clear h hs1
    go_wp2_with fail
    refine (R.out w1).mono ?_
    intro e w2 h
    obtain ⟨hb2, A2, c2, rfl, hs2⟩ := PF.out _ _ _ h
    have HS2 := hide hs2
    have hB2 := bl_step hb1 hb2
    clear h hs2
    go_wp2_with fail
    refine (AL.out w2 hB2).mono ?_
    rintro e w3 ⟨rfl, hb3⟩
    have hB3 := bl_step hB2 hb3
    have HS := sameU_true xs A1 A2 c1 c2 w3 ((HS1.out.below (bl_step hb2 hb3)).more (bl_step hb2 hb3).size) ((HS2.out.below hb3).more hb3.size) (by omega)
    rw [← HL.out] at HS
    have HSH := hide HS
    clear HS
    go_wp2_with fail
    refine HSH.out.mono ?_
    rintro e w4 ⟨rfl, hb4⟩
    go_wp2
    go_ret
    exact ⟨rfl, bl_step hB3 hb4⟩
end Go.Proofs.YthdpbmpdiaencaaDoor
