/- The reference's powers of 65536. -/
import Derived.Test.YthdpbmpdiaencaaDoorRefNum7
namespace Go.Proofs.YthdpbmpdiaencaaDoor
open Go.RowKit

theorem dval_zeros (k : Nat) : dval (List.replicate k 0) = 0 := by
  induction k with
  | zero => rfl
  | succ k ih => rw [List.replicate_succ, dval, ih]
theorem digs_pow (k : Nat) : digs (65536 ^ k) = List.replicate k 0 ++ [1] := by
  have h1 : dOk (List.replicate k 0 ++ [1]) := fun d hd => by
    rcases List.mem_append.1 hd with h | h
    · rw [(List.mem_replicate.1 h).2]; decide
    · rw [List.mem_singleton.1 h]; decide
  have h2 : noLead (List.replicate k 0 ++ [1]) := by unfold noLead; simp
  have h3 := noLead_digs h1 h2
  rw [dval_snoc, dval_zeros, List.length_replicate, Nat.mul_one, Nat.zero_add] at h3
  exact h3.symm
set_option maxRecDepth 100000 in
set_option maxHeartbeats 2000000 in
theorem power_any (P : Nat → Prop) (k : Nat) (hk : k ≤ 100) (w : World) (hP : Up w P) :
    Calls Tryd.prog 50 #[.int .i64 (k : Int)] w (GaveR P ((65536 : Int) ^ k) w) := by
  obtain ⟨w0, hw0⟩ : ∃ w0, w0 = w.alloc (.cells #[.int .i64 0, .slice none 0 0] 49) := ⟨_, rfl⟩
  have hb0 : Below w.heap.size w w0 := by rw [hw0]; exact bl_alloc (Below.refl _ _) _
  have B0 : Blk w0 w.heap.size 49 #[.int .i64 0, .slice none 0 0] := by rw [hw0]; exact Blk.new _ _ _
  have hsz : w0.heap.size = w.heap.size + 1 := by rw [hw0]; simp
  have HP := hide hP
  obtain ⟨i0, hi, hz0, hz1, hz2⟩ := info_parts int_info
  have HB0 := hide hb0; have HBB := hide B0; have HSZ := hide hsz
  clear hP hb0 B0 hsz
  go_enter Tryd.func50, Tryd.ntmps50
  go_wp2
  rw [← hw0]
  clear hw0
  go_loopw [3, 4] (fun d i wr => ∃ j : Nat, j ≤ k ∧ i = .int .i64 j ∧ Below w0.heap.size w0 wr ∧ wr.ownsRow w0.heap.size 3 1 d j (dCs (List.replicate j 0)))
    (fun _ i _ => k - (intOf i).toNat)
  case atStart => exact ⟨0, by omega, rfl, Below.refl _ _, World.ownsRow_nil _ _ _ _⟩
  case round =>
    obtain ⟨j, hj, rfl, hbr, hown⟩ := hrel
    by_cases hlt : j < k
    · have hjk : (j : Int) < (k : Int) := by omega
      go_wp2_with (at_builtin; refine wpList_append_lies _ rfl (.tmp 10) (.tmp 11) 47 rfl w0.heap.size 3 i0 (.int .i64 0) 1 8 Tryd.underlying47 hi hz0 hz1 hz2 rfl (by decide) _ j _ rfl (own_step hown (bl_alloc (Below.refl _ _) _)) ⟨wr.heap.size, 0, none⟩ 1 1 [.int .i64 0] rfl rfl (blk_cells (Blk.new _ _ _)) (by simp [Value.oneCell']) (by omega) (by unfold maxLen; omega) (by omega) (by have := hbr.size; simp; omega) (wr.heap.size + 1) (by simp) ?_)
      intro g' cap w8 hown8 hgrow hat hlt8
      have hb8 : Below w0.heap.size w0 w8 := (bl_alloc hbr _).grown hgrow (by have := hbr.size; simp; omega) (fun j hj => own_base hown hj)
      have HO8 := hide hown8; have HB8 := hide hb8
      clear hown8 hb8 hgrow hat hlt8
      go_wp2
      go_roundw
      case rel =>
        refine ⟨j + 1, by omega, by go_num, HB8.out, ?_⟩
        rw [List.replicate_succ', dCs_app]
        exact HO8.out
      case measure => simp [intOf]; omega
    · obtain rfl : j = k := by omega
      have hjk : ¬ (j : Int) < (j : Int) := by omega
      go_wp2_with (at_builtin; refine wpList_append_lies _ rfl (.tmp 13) (.tmp 14) 47 rfl w0.heap.size 3 i0 (.int .i64 0) 1 8 Tryd.underlying47 hi hz0 hz1 hz2 rfl (by decide) _ j _ rfl (own_step hown (bl_alloc (Below.refl _ _) _)) ⟨wr.heap.size, 0, none⟩ 1 1 [.int .i64 1] rfl rfl (blk_cells (Blk.new _ _ _)) (by simp [Value.oneCell']) (by omega) (by unfold maxLen; omega) (by omega) (by have := hbr.size; simp; omega) (wr.heap.size + 1) (by simp) ?_)
      intro g' cap w8 hown8 hgrow hat hlt8
      have hb8 : Below w0.heap.size w0 w8 := (bl_alloc hbr _).grown hgrow (by have := hbr.size; simp; omega) (fun j hj => own_base hown hj)
      have hown9 : w8.ownsRow w0.heap.size 3 1 (.slice (some ⟨g', 0, none⟩) (j + 1) cap) (j + 1) (dCs (digs (65536 ^ j))) := by
        rw [digs_pow, dCs_app]; exact hown8
      obtain ⟨A', c', hv, hc', hcm'⟩ := own_slice' hown9
      have hw8 : Below w.heap.size w w8 := bl_step HB0.out hb8
      have B5 := HBB.out.below hb8 (by have := HSZ.out; omega)
      have hN5 : NumAt w8 (fun k => P k ∧ k ≠ w.heap.size) ((65536 : Int) ^ j) (some ⟨g', 0, none⟩) cap := by
        have e : ((65536 : Int) ^ j).natAbs = 65536 ^ j := by rw [Int.natAbs_pow]; rfl
        unfold NumAt
        rw [e]
        refine ⟨(own_slN hown9).mono fun k hk => ⟨HP.out k (by have := HSZ.out; omega), by have := HSZ.out; omega⟩, ?_, ?_⟩
        · rw [digs_pow, List.length_append, List.length_replicate, List.length_singleton]
          injection hv with _ _ h3
          omega
        · injection hv with _ _ h3
          omega
      have HN5 := hide hN5; have HW8 := hide hw8
      have hlt := B5.lt
      have b0 := B5.cell (i := 0) rfl
      have b1 := B5.cell (i := 1) rfl
      have f0 := B5.frozen 0
      have f1 := B5.frozen 1
      have HB5 := hide B5
      clear hown8 hown9 hv hb8 hgrow hat hlt8 B5 hN5 hw8
      go_wp2
      refine bodyPost_ret (results_num rfl rfl ((HB5.out.set 0 _).set 1 _)) rfl ?_
      have hg := gave_set (u := .int .i64 1) (v := .slice (some ⟨g', 0, none⟩) (j + 1) cap) HW8.out (Nat.le_refl _) HN5.out
      have e : numV ((65536 : Int) ^ j) (some ⟨g', 0, none⟩) cap = .agg #[.int .i64 1, .slice (some ⟨g', 0, none⟩) (j + 1) cap] := by
        unfold numV
        rw [Int.natAbs_pow, show (65536 : Int).natAbs = 65536 from rfl, digs_pow, Int.sign_eq_one_of_pos (Int.pow_pos (by decide))]
        simp
      rw [e] at hg
      exact hg
end Go.Proofs.YthdpbmpdiaencaaDoor
