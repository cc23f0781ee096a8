/- The reference's decimal form of an integer. -/
import Derived.Test.YthdpbmpdiaencaaDoorRefDigits
import Derived.Test.YthdpbmpdiaencaaDoorSame03
namespace Go.Proofs.YthdpbmpdiaencaaDoor
open Go.RowKit

set_option maxRecDepth 100000 in
set_option maxHeartbeats 1000000 in
theorem number_any (P : Nat → Prop) (v : Int) (A : Option Addr) (c : Nat) (w : World) (hn : NumAt w P v A c) (hl : (digs v.natAbs).length ≤ 100) :
    Calls Tryd.prog 24 #[numV v A c] w fun e w' => e = .returned (.string (strOf (txt v))) ∧ Below w.heap.size w w' := by
  unfold numV
  obtain ⟨w0, hw0⟩ : ∃ w0, w0 = w.alloc (.cells #[.int .i64 v.sign, .slice A (digs v.natAbs).length c] 49) := ⟨_, rfl⟩
  have hb0 : Below w.heap.size w w0 := by rw [hw0]; exact bl_alloc (Below.refl _ _) _
  have DG := digits_any v.natAbs hl A c w0 (hn.step hb0).1.any
  have hdl := dgB_len hl
  obtain ⟨N, hN⟩ : ∃ N, N = v.natAbs := ⟨_, rfl⟩
  rw [← hN] at hw0 DG hdl ⊢
  have HDG := hide DG
  by_cases hv : v < 0
  · have hs : v.sign = -1 := Int.sign_eq_neg_one_of_neg hv
    have ht : Hid (strOf [45] ++ strOf (dgB N) = strOf (txt v)) := hide (by
      rw [strOf_app]
      unfold txt
      rw [if_pos hv, hN])
    rw [hs] at hw0 ⊢
    have z1 : (strOf (dgB N)).size ≤ 1000 := by rw [strOf_size]; exact hdl
    clear DG hn hl hdl hN hs hv
    go_enter Tryd.func24, Tryd.ntmps24
    go_wp2_with fail
    rw [← hw0]
    refine HDG.out.mono ?_
    rintro e w1 ⟨rfl, hb1⟩
    have hB := bl_step hb0 hb1
    clear hw0
    go_wp2
    go_ret
    exact ⟨by rw [← ht.out]; rfl, hB⟩
  · have hs : ¬ v.sign < 0 := by
      have := Int.sign_nonneg_iff.2 (show 0 ≤ v by omega)
      omega
    have ht : Hid (strOf (dgB N) = strOf (txt v)) := hide (by
      unfold txt
      rw [if_neg hv, hN, List.nil_append])
    clear DG hn hl hdl hN hv
    obtain ⟨sg, hsg⟩ : ∃ sg, sg = v.sign := ⟨_, rfl⟩
    rw [← hsg] at hw0 hs ⊢
    clear hsg
    go_enter Tryd.func24, Tryd.ntmps24
    go_wp2_with fail
    rw [← hw0]
    refine HDG.out.mono ?_
    rintro e w1 ⟨rfl, hb1⟩
    have hB := bl_step hb0 hb1
    clear hw0
    go_wp2
    go_ret
    exact ⟨by rw [ht.out]; rfl, hB⟩
set_option maxRecDepth 100000 in
set_option maxHeartbeats 1000000 in
theorem refFormat_any (n : Nat) (v : Int) (hf : Fits n v) (hn : 1 ≤ n) (hn8 : n ≤ 8) (A : Option Addr) (c : Nat) (w : World) (hs : Sl w w.heap.size A (uCs (lims n v))) :
    Calls Tryd.prog 11 #[.slice A n c] w fun e w' => e = .returned (.string (strOf (txt v))) ∧ Below w.heap.size w w' := by
  have IS := isU_any A n c w
  rw [decide_eq_true ⟨hn, hn8⟩] at IS
  have VA := hide (value_any (fun _ => True) n v hf hn hn8 A c w hs (fun _ _ => trivial))
  have hl : (digs v.natAbs).length ≤ 100 := by
    have h1 := W64_nat n
    have hp := W64_pos n
    have h2 := hf.1
    have h3 := hf.2
    have h4 : v.natAbs < 65536 ^ (4 * n) := by omega
    exact Nat.le_trans (digs_len h4) (by omega)
  have HL := hide hl; have HI := hide IS
  clear hl IS hs hf
  go_enter Tryd.func11, Tryd.ntmps11
  go_wp2_with fail
  refine HI.out.mono ?_
  rintro e w' ⟨rfl, rfl⟩
  go_wp2_with fail
  refine VA.out.mono ?_
  rintro e w1 ⟨A1, c1, rfl, hN1, hb1⟩
  have NM := hide (number_any _ v A1 c1 w1 hN1 HL.out)
  clear hN1
  obtain ⟨V, hV⟩ : ∃ V, V = numV v A1 c1 := ⟨_, rfl⟩
  rw [← hV] at NM ⊢
  clear hV
  go_wp2_with fail
  refine NM.out.mono ?_
  rintro e w2 ⟨rfl, hb2⟩
  have hB := bl_step hb1 hb2
  go_wp2
  go_ret
  exact ⟨rfl, hB⟩
set_option maxRecDepth 100000 in
theorem refFormat_bad (n : Nat) (h : ¬ (1 ≤ n ∧ n ≤ 8)) (A : Option Addr) (c : Nat) (w : World) :
    Calls Tryd.prog 11 #[.slice A n c] w fun e w' => e = .returned (.string { data := #[] }) ∧ w = w' := by
  have IS := isU_any A n c w
  rw [decide_eq_false h] at IS
  have HI := hide IS
  clear IS h
  go_enter Tryd.func11, Tryd.ntmps11
  go_wp2_with fail
  refine HI.out.mono ?_
  rintro e w' ⟨rfl, rfl⟩
  go_wp2
  go_ret
  exact ⟨rfl, rfl⟩
set_option maxRecDepth 100000 in
theorem format_bad (n : Nat) (h : ¬ (1 ≤ n ∧ n ≤ 8)) (A : Option Addr) (c : Nat) (w : World) :
    Calls Tryd.prog 10 #[.slice A n c] w fun e w' => e = .returned (.string { data := #[] }) ∧ w = w' := by
  by_cases h1 : (n : Int) < 1
  · go_enter Tryd.func10, Tryd.ntmps10
    go_wp2
    go_step3
    go_wp2
    rw [Exit.noGoto_ret]
    go_ret
    exact ⟨rfl, rfl⟩
  · have h8 : 8 < (n : Int) := by omega
    clear h
    go_enter Tryd.func10, Tryd.ntmps10
    go_wp2
    go_step3
    go_wp2
    rw [Exit.noGoto_ret]
    go_ret
    exact ⟨rfl, rfl⟩
end Go.Proofs.YthdpbmpdiaencaaDoor
