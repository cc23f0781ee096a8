/- DecimalRoundTrip: Parse inverts Format. -/
import Derived.Test.YthdpbmpdiaencaaDoorDecText
import Derived.Test.YthdpbmpdiaencaaDoorSame03
namespace Go.Proofs.YthdpbmpdiaencaaDoor
open Go.RowKit

set_option maxRecDepth 100000 in
set_option maxHeartbeats 2000000 in
theorem lawRound04 (l : List Int) (A : Option Addr) (c : Nat) (w : World) (hs : Sl w w.heap.size A (uCs l)) (hu : L64 l) (hw : MWords w) (hwg : 2 < w.heap.size) :
    Calls Tryd.prog 5 #[.slice A l.length c] w fun e w' => e = .returned (.bool true) ∧ Below w.heap.size w w' := by
  have IS := isU_any A l.length c w
  have AL : Hid (∀ wx, Below w.heap.size w wx → Calls Tryd.prog 9 #[] wx fun e w' => e = .returned (.bool true) ∧ Below wx.heap.size wx w') := hide fun wx hb =>
    alive_true wx (words_at hw hwg hb).1 (words_at hw hwg hb).2
  by_cases hn : 1 ≤ l.length ∧ l.length ≤ 8
  · rw [decide_eq_true hn] at IS
    obtain ⟨v, hf, hv⟩ := signed_of hu
    have F := format_any l.length v hf hn.1 hn.2 A c w (by rw [hv]; exact hs) hw hwg
    obtain ⟨t1, t2⟩ := txt_ok hf hn.1 hn.2
    rw [txt_str] at F
    have P : Hid (∀ wx, Below w.heap.size w wx → Calls Tryd.prog 12 #[.string (strOf (txt v)), .int .i64 (l.length : Int)] wx fun e w' => ∃ B d, e = .returned (.tuple #[.slice B l.length d, .int .i64 0]) ∧ Below wx.heap.size wx w' ∧ Sl w' w'.heap.size B (uCs l)) := hide fun wx hb => by
      refine (parse_dec (strOf (txt v)) (l.length : Int) ?_ wx (words_at hw hwg hb).1 (words_at hw hwg hb).2).mono ?_
      · rw [strOf_size]
        have h3 := (pErr_zero t1).2.2.2.1
        have h4 : (txt v).length ≤ 1 + (dgs (txt v)).length := by
          rw [(txt_facts v).1]
          unfold txt
          rw [List.length_append]
          split <;> simp
        unfold maxLen
        omega
      · rintro e w' ⟨hb', ⟨_, B, d, rfl, hsl⟩ | ⟨h0, _⟩⟩
        · rw [Int.toNat_natCast] at hsl ⊢
          rw [show (strOf (txt v)).data.toList = txt v by simp [strOf], t2, hv] at hsl
          exact ⟨B, d, rfl, hb', hsl⟩
        · exact absurd (by rw [show (strOf (txt v)).data.toList = txt v by simp [strOf]]; exact t1) h0
    have HI := hide IS; have HF := hide F; have HS := hide hs
    have hn8 := hn.2
    clear IS F hs hu hf hv t1 t2 hn hw hwg
    go_enter Tryd.func5, Tryd.ntmps5
    go_wp2_with fail
    refine HI.out.mono ?_
    rintro e w' ⟨rfl, rfl⟩
    go_wp2_with fail
    refine HF.out.mono ?_
    rintro e w1 ⟨rfl, hb1⟩
    go_wp2_with fail
    refine (P.out _ hb1).mono ?_
    rintro e w2 ⟨B, d, rfl, hb2, hsl⟩
    have hB2 := bl_step hb1 hb2
    have HSL := hide hsl
    clear hsl
    go_wp2_with fail
    refine (AL.out _ hB2).mono ?_
    rintro e w3 ⟨rfl, hb3⟩
    have hB3 := bl_step hB2 hb3
    have SM := hide (sameU_true l A B c d w3 ((HS.out.below hB3).more hB3.size) ((HSL.out.below hb3).more hb3.size) (by omega))
    go_wp2_with fail
    refine SM.out.mono ?_
    rintro e w4 ⟨rfl, hb4⟩
    have hB4 := bl_step hB3 hb4
    go_wp2
    go_ret
    exact ⟨rfl, hB4⟩
  · rw [decide_eq_false hn] at IS
    have HI := hide IS
    clear IS hs hu hn hw hwg
    go_enter Tryd.func5, Tryd.ntmps5
    go_wp2_with fail
    refine HI.out.mono ?_
    rintro e w' ⟨rfl, rfl⟩
    go_wp2_with fail
    refine (AL.out _ (Below.refl _ _)).mono ?_
    rintro e w1 ⟨rfl, hb1⟩
    go_wp2
    go_ret
    exact ⟨rfl, hb1⟩
end Go.Proofs.YthdpbmpdiaencaaDoor
