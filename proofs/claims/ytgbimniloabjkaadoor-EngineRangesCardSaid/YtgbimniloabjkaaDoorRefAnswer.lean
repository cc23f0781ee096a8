/- The reference's is: the same answer as isAnswer. -/
import Derived.Test.YtgbimniloabjkaaDoorAnswer
namespace Go.Proofs.YtgbimniloabjkaaDoor
open Go.RowKit

section
variable (vs pts val cnt : Int) (HA RA : Option Addr) (hn hc rc : Nat) (recs : List (Int × Int)) (w : World)
variable (hs : Sl w w.heap.size RA (recCs recs)) (hrn : recs.length ≤ maxLen) (hp0 : 0 ≤ pts) (hp1 : pts ≤ 4096)
include hs hrn hp0 hp1
set_option maxRecDepth 1000000 in
set_option maxHeartbeats 4000000 in
theorem ris_at (n : Nat) (hn5 : n < 6) (M : Int) (hM : (#[Value.int .i64 0, .int .i64 2, .int .i64 2, .int .i64 3, .int .i64 2, .int .i64 1] : Array Value)[n]? = some (.int .i64 M)) (hm : most (n : Int) = M) :
    Calls Tryd.prog 22 #[.agg #[.int .i64 (n : Int), .int .i64 vs, .slice HA hn hc, .int .i64 pts], .agg #[.int .i64 val, .int .i64 cnt, .slice RA recs.length rc]] w fun e w' => e = .returned (.bool (isAns n pts val cnt recs)) ∧ Below w.heap.size w w' := by
  unfold maxLen at hrn
  have HS := hide hs; clear hs
  obtain ⟨w0, hw0⟩ : ∃ w0, w0 = ((w.alloc (.cells #[.int .i64 (n : Int), .int .i64 vs, .slice HA hn hc, .int .i64 pts] 24)).alloc (.cells #[.int .i64 val, .int .i64 cnt, .slice RA recs.length rc] 41)).alloc (.cells #[.int .i64 0, .int .i64 2, .int .i64 2, .int .i64 3, .int .i64 2, .int .i64 1] 104) := ⟨_, rfl⟩
  have hb0 : Below w.heap.size w w0 := by rw [hw0]; exact bl_alloc (bl_alloc (bl_alloc (Below.refl _ _) _) _) _
  have BA : Blk w0 w.heap.size 24 #[.int .i64 (n : Int), .int .i64 vs, .slice HA hn hc, .int .i64 pts] := by rw [hw0]; exact ((Blk.new _ _ _).alloc _).alloc _
  have BR : Blk w0 (w.heap.size + 1) 41 #[.int .i64 val, .int .i64 cnt, .slice RA recs.length rc] := by rw [hw0]; exact (Blk.new2 _ _ _ _).alloc _
  have BM : Blk w0 (w.heap.size + 1 + 1) 104 #[.int .i64 0, .int .i64 2, .int .i64 2, .int .i64 3, .int .i64 2, .int .i64 1] := by
    rw [hw0]
    have h := Blk.new ((w.alloc (.cells #[.int .i64 (n : Int), .int .i64 vs, .slice HA hn hc, .int .i64 pts] 24)).alloc (.cells #[.int .i64 val, .int .i64 cnt, .slice RA recs.length rc] 41)) 104 #[.int .i64 0, .int .i64 2, .int .i64 2, .int .i64 3, .int .i64 2, .int .i64 1]
    simpa using h
  have HW0 := hide hw0; clear hw0
  have HI : Hid (isAns n pts val cnt recs = if val < 0 then false else if M < val then false else if (recs.length : Int) ≠ pts then false else if cnt < 0 then false else if aLim val pts < cnt then false else okFrom cnt 0 recs) := by
    apply hide; unfold isAns; rw [hm]
  clear hm
  have a0 := BA.cell (i := 0) rfl
  have a3 := BA.cell (i := 3) rfl
  have b0 := BR.cell (i := 0) rfl
  have b1 := BR.cell (i := 1) rfl
  have b2 := BR.cell (i := 2) rfl
  have m0 := BM.cell hM
  have n0 : (0 : Int) ≤ (n : Int) := by omega
  have n6 : (n : Int) < 6 := by omega
  clear hM
  by_cases c1 : val < 0
  · have d1 : decide (val < 0) = true := by simpa using c1
    go_enter Tryd.func22, Tryd.ntmps22
    go_wp2
    rw [← HW0.out]
    go_quiet (fail)
    go_wp2
    go_ret
    exact ⟨ret_bool (by rw [HI.out, if_pos (by omega)]), below_drewN hb0 _⟩
  have d1 : decide (val < 0) = false := by simpa using c1
  by_cases c2 : M < val
  · have d2 : decide (M < val) = true := by simpa using c2
    go_enter Tryd.func22, Tryd.ntmps22
    go_wp2
    rw [← HW0.out]
    go_quiet (fail)
    go_wp2
    go_ret
    exact ⟨ret_bool (by rw [HI.out, if_neg (by omega), if_pos (by omega)]), below_drewN hb0 _⟩
  have d2 : decide (M < val) = false := by simpa using c2
  by_cases c3 : (recs.length : Int) ≠ pts
  · have d3 : ((recs.length : Int) != pts) = true := by simpa using c3
    go_enter Tryd.func22, Tryd.ntmps22
    go_wp2
    rw [← HW0.out]
    go_quiet (fail)
    go_wp2
    go_ret
    exact ⟨ret_bool (by rw [HI.out, if_neg (by omega), if_neg (by omega), if_pos (by omega)]), below_drewN hb0 _⟩
  obtain rfl : pts = (recs.length : Int) := by omega
  by_cases c4 : cnt < 0
  · have d4 : decide (cnt < 0) = true := by simpa using c4
    go_enter Tryd.func22, Tryd.ntmps22
    go_wp2
    rw [← HW0.out]
    go_quiet (fail)
    go_wp2
    go_ret
    exact ⟨ret_bool (by rw [HI.out, if_neg (by omega), if_neg (by omega), if_neg (by omega), if_pos (by omega)]), below_drewN hb0 _⟩
  have d4 : decide (cnt < 0) = false := by simpa using c4
  have hl : aLim val (recs.length : Int) = if val = 0 then 0 else (recs.length : Int) := rfl
  obtain ⟨L, hL⟩ : ∃ L, aLim val (recs.length : Int) = L := ⟨_, rfl⟩
  rw [hL] at hl
  have HLL := hide hL; clear hL
  have hv3 : val = 0 ∧ L = 0 ∨ val ≠ 0 ∧ L = recs.length := by
    by_cases h0 : val = 0
    · rw [if_pos h0] at hl; omega
    · rw [if_neg h0] at hl; omega
  clear hl
  by_cases c5 : (recs.length : Int) < cnt
  · have d5 : decide ((recs.length : Int) < cnt) = true := by simpa using c5
    have c6 : L < cnt := by omega
    go_enter Tryd.func22, Tryd.ntmps22
    go_wp2
    rw [← HW0.out]
    go_quiet (fail)
    go_wp2
    go_ret
    exact ⟨ret_bool (by rw [HI.out, if_neg (by omega), if_neg (by omega), if_neg (by omega), if_neg (by omega), HLL.out, if_pos (by omega)]), below_drewN hb0 _⟩
  have d5 : decide ((recs.length : Int) < cnt) = false := by simpa using c5
  by_cases c7 : val = 0 ∧ 0 < cnt
  · obtain ⟨rfl, c8⟩ := c7
    have d6 : decide (0 < cnt) = true := by simpa using c8
    have c9 : L < cnt := by omega
    go_enter Tryd.func22, Tryd.ntmps22
    go_wp2
    rw [← HW0.out]
    go_quiet (fail)
    go_wp2
    go_ret
    exact ⟨ret_bool (by rw [HI.out, if_neg (by omega), if_neg (by omega), if_neg (by omega), if_neg (by omega), HLL.out, if_pos (by omega)]), below_drewN hb0 _⟩
  have HI2 : Hid (isAns n recs.length val cnt recs = okFrom cnt 0 recs) := by
    apply hide; rw [HI.out, if_neg (by omega), if_neg (by omega), if_neg (by omega), if_neg (by omega), HLL.out, if_neg (by omega)]
  have hpost : ∀ m, Below w0.heap.size w0 (w0.drewN m) := fun m => below_drewN (Below.refl _ _) m
  have HPO := hide hpost
  clear HI HLL c3 hpost
  have hgo : (val == 0) = false ∨ val = 0 ∧ decide (0 < cnt) = false := by
    by_cases h0 : val = 0
    · right; refine ⟨h0, ?_⟩; simp; omega
    · left; simpa using h0
  clear hv3 c7
  rcases hgo with d6 | ⟨rfl, d6⟩
  all_goals
    go_enter Tryd.func22, Tryd.ntmps22
    go_wp2
    rw [← HW0.out]
    go_quiet (fail)
    go_wp2
    go_loopw [6] (fun i wr => ∃ k : Nat, k ≤ recs.length ∧ i = .int .i64 k ∧ Below w0.heap.size w0 wr ∧ okFrom cnt k (recs.drop k) = okFrom cnt 0 recs)
      (fun i _ => recs.length - (intOf i).toNat)
    case atStart => exact ⟨0, by omega, rfl, HPO.out _, by simp⟩
    case round =>
      obtain ⟨k, hk, rfl, hbr, hok⟩ := hrel
      have HOK := hide hok; clear hok
      have r1 := (BR.step hbr).cell (i := 1) rfl
      have r2 := (BR.step hbr).cell (i := 2) rfl
      have hBl := (BR.step hbr).lt
      by_cases hlt : k < recs.length
      · obtain ⟨r, hr⟩ : ∃ r, recs[k]? = some r := ⟨_, List.getElem?_eq_getElem hlt⟩
        obtain ⟨b, off, rfl, hb, q0, q1⟩ := (HS.out.below (bl_step hb0 hbr)).rec_ hr
        have hbl := cell_lt q0
        have HD := hide (okFrom_drop cnt recs k r hr)
        clear hr b0 b1 b2 a0 a3 m0
        by_cases hlive : (k : Int) < cnt
        · have dl : decide ((k : Int) < cnt) = true := by simpa using hlive
          by_cases h1 : r.1 = 1
          · have h1' : (r.1 != 1) = false := by simpa using h1
            have HO : Hid (recOk cnt k r = true) := by apply hide; unfold recOk; rw [if_pos hlive, h1]; rfl
            have H1 := hide h1; clear h1
            first
              | (exfalso; simp at d6; omega)
              | (go_wp2
                 go_roundw
                 case rel => exact ⟨k + 1, by omega, by go_num, bl_alloc hbr _, by rw [← HOK.out, HD.out, HO.out, Bool.true_and]⟩
                 case measure => simp [intOf]; omega)
          · have h1' : (r.1 != 1) = true := by simpa using h1
            have HO : Hid (recOk cnt k r = false) := by apply hide; unfold recOk; rw [if_pos hlive]; simpa using h1
            have H1 := hide h1; clear h1
            first
              | (exfalso; simp at d6; omega)
              | (go_wp2
                 go_ret
                 exact ⟨ret_bool (by rw [HI2.out, ← HOK.out, HD.out, HO.out, Bool.false_and]), bl_step hb0 (bl_alloc hbr _)⟩)
        · have dl : decide ((k : Int) < cnt) = false := by simpa using hlive
          by_cases h1 : r.1 = 0
          · by_cases h2 : r.2 = 0
            · have HO : Hid (recOk cnt k r = true) := by apply hide; unfold recOk; rw [if_neg hlive, h1, h2]; rfl
              go_wp2
              go_roundw
              case rel => exact ⟨k + 1, by omega, by go_num, bl_alloc hbr _, by rw [← HOK.out, HD.out, HO.out, Bool.true_and]⟩
              case measure => simp [intOf]; omega
            · have HO : Hid (recOk cnt k r = false) := by apply hide; unfold recOk; rw [if_neg hlive]; simp [h2]
              go_wp2
              go_ret
              exact ⟨ret_bool (by rw [HI2.out, ← HOK.out, HD.out, HO.out, Bool.false_and]), bl_step hb0 (bl_alloc hbr _)⟩
          · have HO : Hid (recOk cnt k r = false) := by apply hide; unfold recOk; rw [if_neg hlive]; simp [h1]
            go_wp2
            go_ret
            exact ⟨ret_bool (by rw [HI2.out, ← HOK.out, HD.out, HO.out, Bool.false_and]), bl_step hb0 (bl_alloc hbr _)⟩
      · have hk' : k = recs.length := by omega
        subst hk'
        go_wp2
        go_ret
        exact ⟨ret_bool (by rw [HI2.out, ← HOK.out, List.drop_length]; rfl), bl_step hb0 hbr⟩
end
end Go.Proofs.YtgbimniloabjkaaDoor
