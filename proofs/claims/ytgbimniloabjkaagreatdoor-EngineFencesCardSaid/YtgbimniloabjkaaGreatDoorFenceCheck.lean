/- fence.Check: the public structure of a list of regions. -/
import Derived.Test.YtgbimniloabjkaaGreatDoorFenceSize
namespace Go.Proofs.YtgbimniloabjkaaGreatDoor
open Go.RowKit

/-- the error of the regions, the count left out -/
def fcheckL : List Rg → Int
  | [] => 0
  | r :: rs => if sizeOfReg r.v = 0 then 7 else if sizeOfReg r.v = (r.n : Int) then fcheckL rs else 8
def fcheck (rs : List Rg) : Int := if rs.length < 1 ∨ 64 < rs.length then 6 else fcheckL rs
theorem fcheckL_drop (rs : List Rg) (k : Nat) (r : Rg) (h : rs[k]? = some r) : fcheckL (rs.drop k) = if sizeOfReg r.v = 0 then 7 else if sizeOfReg r.v = (r.n : Int) then fcheckL (rs.drop (k + 1)) else 8 := by
  obtain ⟨hlt, he⟩ := List.getElem?_eq_some_iff.1 h
  rw [List.drop_eq_getElem_cons hlt, he]
  rfl

set_option maxRecDepth 100000 in
set_option maxHeartbeats 2000000 in
theorem fcheck_any (rs : List Rg) (A : Option Addr) (c : Nat) (w : World) (hs : Sl w w.heap.size A (rgCells rs)) :
    Calls Tryz.prog 72 #[.slice A rs.length c] w fun e w' => e = .returned (.int .i64 (fcheck rs)) ∧ Below w.heap.size w w' := by
  have HS := hide hs; clear hs
  by_cases hc : rs.length < 1 ∨ 64 < rs.length
  · have hf : fcheck rs = 6 := by unfold fcheck; rw [if_pos hc]
    rw [hf]
    have hci : ((rs.length : Nat) : Int) < 1 ∨ (¬ ((rs.length : Nat) : Int) < 1 ∧ (64 : Int) < ((rs.length : Nat) : Int)) := by omega
    clear hf hc
    rcases hci with h | ⟨h, h2⟩
    · go_enter Tryz.func72, Tryz.ntmps72
      go_wp2
      go_ret
      exact ⟨rfl, Below.refl _ _⟩
    · go_enter Tryz.func72, Tryz.ntmps72
      go_wp2
      go_ret
      exact ⟨rfl, Below.refl _ _⟩
  · have hf : fcheck rs = fcheckL rs := by unfold fcheck; rw [if_neg hc]
    rw [hf]
    have h1 : ¬ ((rs.length : Nat) : Int) < 1 := by omega
    have h2 : ¬ (64 : Int) < ((rs.length : Nat) : Int) := by omega
    clear hf hc
    go_enter Tryz.func72, Tryz.ntmps72
    go_wp2
    go_loopw [15] (fun i wr => ∃ k : Nat, k ≤ rs.length ∧ i = .int .i64 k ∧ Hid (fcheckL rs = fcheckL (rs.drop k)) ∧ Below w.heap.size w wr)
      (fun i _ => rs.length - (intOf i).toNat)
    case atStart => exact ⟨0, Nat.zero_le _, rfl, hide (by simp), Below.refl _ _⟩
    case round =>
      obtain ⟨k, hk, rfl, hF, hb⟩ := hrel
      by_cases hlt : k < rs.length
      · obtain ⟨r, hr⟩ : ∃ r, rs[k]? = some r := ⟨_, List.getElem?_eq_getElem hlt⟩
        obtain ⟨b, off, rfl, hB, c0, c1, c2⟩ := (HS.out.below hb).rg hr
        have hD := hide (hF.out.trans (fcheckL_drop rs k r hr))
        have hlti : ((k : Nat) : Int) < ((rs.length : Nat) : Int) := by omega
        obtain ⟨d, v, A, n, c⟩ := r
        dsimp only at *
        clear hr hF
        obtain ⟨w1, hw1⟩ : ∃ w1, w1 = wr.alloc (.cells #[.bool d, .int .i64 v, .slice A n c] 84) := ⟨_, rfl⟩
        have hb1 : Below wr.heap.size wr w1 := by rw [hw1]; exact bl_alloc (Below.refl _ _) _
        have B1 : Blk w1 wr.heap.size 84 #[.bool d, .int .i64 v, .slice A n c] := by rw [hw1]; exact Blk.new _ _ _
        go_wp2_with fail
        rw [← hw1]
        clear hw1
        refine (size_any d v A n c w1).mono ?_
        rintro e w2 ⟨rfl, hb2⟩
        have B2 := B1.step hb2
        have z2 : w2.cell? ⟨wr.heap.size, 2, none⟩ = some (.slice A n c) := B2.cell (i := 2) rfl
        have hbb : Below w.heap.size w w2 := bl_step (bl_step hb hb1) hb2
        clear B1 B2 hb1 hb2 c0 c1 c2
        obtain ⟨z, hz⟩ : ∃ z, z = sizeOfReg v := ⟨_, rfl⟩
        rw [← hz] at hD
        rw [← hz]
        clear hz
        by_cases h0 : z = 0
        · have hD' : Hid (fcheckL rs = 7) := hide (hD.out.trans (if_pos h0))
          clear hD
          subst h0
          go_wp2
          go_ret
          exact ⟨ret_int hD'.out.symm, hbb⟩
        · by_cases h3 : z = (n : Int)
          · have hD' : Hid (fcheckL rs = fcheckL (rs.drop (k + 1))) := hide (hD.out.trans ((if_neg h0).trans (if_pos h3)))
            clear hD
            go_wp2
            go_roundw
            case rel => exact ⟨k + 1, by omega, by go_num, hD', hbb⟩
            case measure => simp [intOf]; omega
          · have hD' : Hid (fcheckL rs = 8) := hide (hD.out.trans ((if_neg h0).trans (if_neg h3)))
            clear hD
            go_wp2
            go_ret
            exact ⟨ret_int hD'.out.symm, hbb⟩
      · obtain rfl : k = rs.length := by omega
        have hD' : Hid (fcheckL rs = 0) := hide (hF.out.trans (by rw [List.drop_length]; rfl))
        go_wp2
        go_ret
        exact ⟨ret_int hD'.out.symm, hb⟩
end Go.Proofs.YtgbimniloabjkaaGreatDoor
