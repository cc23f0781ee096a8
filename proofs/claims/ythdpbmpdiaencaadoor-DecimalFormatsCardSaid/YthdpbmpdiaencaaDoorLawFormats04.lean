/- DecimalFormats: for every slice, Format returns the same text as the reference. -/
import Derived.Test.YthdpbmpdiaencaaDoorRefFormat10
namespace Go.Proofs.YthdpbmpdiaencaaDoor
open Go.RowKit

set_option maxRecDepth 100000 in
set_option maxHeartbeats 1000000 in
theorem lawFormats04 (l : List Int) (A : Option Addr) (c : Nat) (w : World) (hs : Sl w w.heap.size A (uCs l)) (hu : L64 l) (hw : MWords w) (hwg : 2 < w.heap.size) :
    Calls Tryd.prog 3 #[.slice A l.length c] w fun e w' => e = .returned (.bool true) ∧ Below w.heap.size w w' := by
  have AL := hide (alive_true w hw hwg)
  have FM : Hid (∃ X : ByteArray, ∀ wx, Below w.heap.size w wx → (Calls Tryd.prog 10 #[.slice A l.length c] wx fun e w' => e = .returned (.string X) ∧ Below wx.heap.size wx w') ∧
      (Calls Tryd.prog 11 #[.slice A l.length c] wx fun e w' => e = .returned (.string X) ∧ Below wx.heap.size wx w')) := hide (by
    by_cases hn : 1 ≤ l.length ∧ l.length ≤ 8
    · obtain ⟨v, hf, hv⟩ := signed_of hu
      refine ⟨strOf (txt v), fun wx hb => ?_⟩
      have hsx : Sl wx wx.heap.size A (uCs (lims l.length v)) := by rw [hv]; exact (hs.below hb).more hb.size
      have h1 := format_any l.length v hf hn.1 hn.2 A c wx hsx (words_at hw hwg hb).1 (words_at hw hwg hb).2
      rw [txt_str] at h1
      exact ⟨h1, refFormat_any l.length v hf hn.1 hn.2 A c wx hsx⟩
    · refine ⟨{ data := #[] }, fun wx hb => ⟨?_, ?_⟩⟩
      · refine (format_bad l.length hn A c wx).mono ?_
        rintro e w' ⟨rfl, rfl⟩
        exact ⟨rfl, Below.refl _ _⟩
      · refine (refFormat_bad l.length hn A c wx).mono ?_
        rintro e w' ⟨rfl, rfl⟩
        exact ⟨rfl, Below.refl _ _⟩)
  obtain ⟨X, hX⟩ := FM.out
  have HX := hide hX
  clear FM hX hs hu hw hwg
  by_cases hl : 50 < (l.length : Int)
  · go_enter Tryd.func3, Tryd.ntmps3
    go_wp2_with fail
    refine AL.out.mono ?_
    rintro e w1 ⟨rfl, hb1⟩
    go_wp2
    go_ret
    exact ⟨rfl, hb1⟩
  · go_enter Tryd.func3, Tryd.ntmps3
    go_wp2_with fail
    refine AL.out.mono ?_
    rintro e w1 ⟨rfl, hb1⟩
    go_wp2_with fail
    refine (HX.out _ hb1).1.mono ?_
    rintro e w2 ⟨rfl, hb2⟩
    have hB2 := bl_step hb1 hb2
    go_wp2_with fail
    refine (HX.out _ hB2).2.mono ?_
    rintro e w3 ⟨rfl, hb3⟩
    have hB3 := bl_step hB2 hb3
    go_wp2
    go_ret
    exact ⟨rfl, hB3⟩
end Go.Proofs.YthdpbmpdiaencaaDoor
