/- DecimalIsCanonical: a text that is accepted is the decimal form of the result. -/
import Derived.Test.YthdpbmpdiaencaaDoorDecText
namespace Go.Proofs.YthdpbmpdiaencaaDoor
open Go.RowKit

set_option maxRecDepth 100000 in
set_option maxHeartbeats 2000000 in
theorem lawCanon04 (s : ByteArray) (n : Int) (hs : s.size ≤ maxLen) (w : World) (hw : MWords w) (hwg : 2 < w.heap.size) :
    Calls Tryd.prog 6 #[.string s, .int .i64 n] w fun e w' => e = .returned (.bool true) ∧ Below w.heap.size w w' := by
  have P := hide (parse_dec s n hs w hw hwg)
  have AL : Hid (∀ wx, Below w.heap.size w wx → Calls Tryd.prog 9 #[] wx fun e w' => e = .returned (.bool true) ∧ Below wx.heap.size wx w') := hide fun wx hb =>
    alive_true wx (words_at hw hwg hb).1 (words_at hw hwg hb).2
  have FM : Hid (∀ (m : Nat) (v : Int) (A : Option Addr) (c : Nat) (wx : World), Below w.heap.size w wx → Fits m v → 1 ≤ m → m ≤ 8 → Sl wx wx.heap.size A (uCs (lims m v)) → Calls Tryd.prog 10 #[.slice A m c] wx fun e w' => e = .returned (.string (strOfNums (fmtI v))) ∧ Below wx.heap.size wx w') := hide fun m v A c wx hb hf h1 h8 hsl =>
    format_any m v hf h1 h8 A c wx hsl (words_at hw hwg hb).1 (words_at hw hwg hb).2
  clear hw hwg
  by_cases hl : 1000 < (s.size : Int)
  · go_enter Tryd.func6, Tryd.ntmps6
    go_wp2_with fail
    refine (AL.out _ (Below.refl _ _)).mono ?_
    rintro e w1 ⟨rfl, hb1⟩
    go_wp2
    go_ret
    exact ⟨rfl, hb1⟩
  · go_enter Tryd.func6, Tryd.ntmps6
    go_wp2_with fail
    refine P.out.mono ?_
    rintro e w1 ⟨hb1, ⟨h0, A, c, rfl, hsl⟩ | ⟨h0, rfl⟩⟩
    · obtain ⟨n1, n8, hg, hdl, hf⟩ := pErr_zero h0
      have hcs := canon_str hg
      have HA := hide (AL.out w1 hb1)
      have hnn : ((n.toNat : Nat) : Int) = n := by omega
      have HSL := hide hsl; have HF := hide hf; have HCS := hide hcs
      obtain ⟨m, hm⟩ : ∃ m, m = n.toNat := ⟨_, rfl⟩
      rw [← hm] at hnn HSL HF
      have m1 : 1 ≤ m := by omega
      have m8 : m ≤ 8 := by omega
      have HM := hide hm
      rw [← hm]
      subst hnn
      clear h0 hg hdl hf hcs hsl hm P
      go_wp2_with fail
      refine HA.out.mono ?_
      rintro e w2 ⟨rfl, hb2⟩
      have hB2 := bl_step hb1 hb2
      have F := hide (FM.out m _ A c w2 hB2 HF.out m1 m8 ((HSL.out.below hb2).more hb2.size))
      rw [HCS.out] at F
      go_wp2_with fail
      refine F.out.mono ?_
      rintro e w3 ⟨rfl, hb3⟩
      have hB3 := bl_step hB2 hb3
      go_wp2
      go_ret
      exact ⟨rfl, hB3⟩
    · have HA := hide (AL.out w1 hb1)
      have H0 := hide h0
      obtain ⟨k, hk⟩ : ∃ k, k = pErr s.data.toList n := ⟨_, rfl⟩
      rw [← hk] at h0 ⊢
      clear hk P
      go_wp2_with fail
      refine HA.out.mono ?_
      rintro e w2 ⟨rfl, hb2⟩
      have hB2 := bl_step hb1 hb2
      go_wp2
      go_ret
      exact ⟨rfl, hB2⟩
end Go.Proofs.YthdpbmpdiaencaaDoor
