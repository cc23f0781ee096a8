/- EngineConvex: the law's function returns true. -/
import Derived.Test.YtgbimniloabjkaaGreatDoorAlive19
import Derived.Test.YtgbimniloabjkaaGreatDoorEvAppend
import Derived.Test.YtgbimniloabjkaaGreatDoorRefEngine
namespace Go.Proofs.YtgbimniloabjkaaGreatDoor
open Go.RowKit Go.Shelf

theorem vEv_len (n : Nat) : (vEv n (List.range (edgeN n))).length ≤ 500000 := by
  have h1 := rgVEv_length 1 n
  unfold rgVEv at h1
  rw [if_neg (by omega)] at h1
  omega
theorem locEv_len (n : Nat) : (locEv (List.range (edgeN n))).length ≤ 500000 := by
  rw [locEv_length, List.length_range]
  unfold edgeN
  split <;> omega
set_option maxRecDepth 1000000 in
set_option maxHeartbeats 8000000 in
theorem lawConvex (ps : List Pt) (A : Option Addr) (c : Nat) (p : Pt) (w : World) (hs : Sl w w.heap.size A (ptCs ps)) (hpJ : PsJ ps) (hp : PJ p) (hw : MW w) :
    Calls Tryz.prog 4 #[.slice A ps.length c, .agg #[.int .i64 p.1, .int .i64 p.2]] w fun e w' => e = .returned (.bool true) ∧ Below w.heap.size w w' := by
  obtain ⟨w0, hw0⟩ : ∃ w0, w0 = w.alloc (.cells #[.int .i64 p.1, .int .i64 p.2] 44) := ⟨_, rfl⟩
  have hb0 : Below w.heap.size w w0 := by rw [hw0]; exact bl_alloc (Below.refl _ _) _
  have B0 : Blk w0 w.heap.size 44 #[.int .i64 p.1, .int .i64 p.2] := by rw [hw0]; exact Blk.new _ _ _
  have mv : ∀ {A : Option Addr} {xs : List Value} {wk : World}, Sl w w.heap.size A xs → Below w.heap.size w wk → Sl wk wk.heap.size A xs := fun h hb => (h.below hb).more hb.size
  have HAL := hide (fun (w' : World) (hb : Below w.heap.size w w') => alive19 w' (hw.step hb))
  by_cases h70 : 70 < ps.length
  · have h70i : (70 : Int) < ((ps.length : Nat) : Int) := by omega
    clear B0 mv hs hpJ hp hw
    go_enter Tryz.func4, Tryz.ntmps4
    go_wp2_with fail
    rw [← hw0]
    clear hw0
    refine (HAL.out w0 hb0).mono ?_
    rintro e w2 ⟨rfl, hb2⟩
    go_wp2
    go_ret
    exact ⟨rfl, bl_step hb0 hb2⟩
  · have h70i : ¬ (70 : Int) < ((ps.length : Nat) : Int) := by omega
    have HCX : Hid (∀ (w1 : World) (g m : Nat), Below w0.heap.size w0 w1 → Tp w1 (fun k => k < w0.heap.size) (some (g, m)) [] → Calls Tryz.prog 11 #[.pointer (some ⟨g, 0, none⟩), .slice A ps.length c, .agg #[.int .i64 p.1, .int .i64 p.2]] w1 fun e w' => e = .returned (.int .i64 (convexA ps p)) ∧ KeepP (fun k => k < w0.heap.size) w1 w' ∧ Tp w' (fun k => k < w0.heap.size) (some (g, m)) (convexEv ps.length)) := hide fun w1 g m hb ht => by
      have hbb : Below w.heap.size w w1 := bl_step hb0 hb
      have hlt : ∀ k, k < w.heap.size → k < w0.heap.size := fun k h => Nat.lt_of_lt_of_le h hb0.size
      exact convex_any (fun k => k < w0.heap.size) (some (g, m)) [] p hp w1 (fun k h => Nat.lt_of_lt_of_le h hb.size) (hlt _ hw.2) (hw.step hbb) ht (by simp) ps hpJ (by omega) A c ((hs.below hbb).slP hlt)
    have HRC : Hid (∀ w1 : World, Below w.heap.size w w1 → Calls Tryz.prog 12 #[.slice A ps.length c, .agg #[.int .i64 p.1, .int .i64 p.2]] w1 fun e w' => e = .returned (.int .i64 (convexA ps p)) ∧ Below w1.heap.size w1 w') := hide fun w1 hb => rconvex_any ps hpJ p hp A c w1 (mv hs hb)
    have HVE := hide (fun w' : World => rvalEv_any (ps.length : Int) w')
    have HLE := hide (fun w' : World => rlocEv_any (ps.length : Int) w')
    have HEL : Hid (convexEv ps.length = vEv ps.length (List.range (edgeN ps.length)) ++ locEv (List.range (edgeN ps.length))) := hide rfl
    have l1 := vEv_len ps.length
    have l2 := locEv_len ps.length
    rw [Int.toNat_natCast] at HVE HLE
    generalize vEv ps.length (List.range (edgeN ps.length)) = es1 at *
    generalize locEv (List.range (edgeN ps.length)) = es2 at *
    generalize convexA ps p = av at *
    generalize hes : convexEv ps.length = es at *
    have HL1 := hide l1; have HL2 := hide l2
    have HB0 := hide hb0; have HBB := hide B0
    clear hes l1 l2 mv hs hpJ hp hw hb0 B0 h70
    generalize ps.length = n at *
    obtain ⟨p1, p2⟩ := p
    dsimp only at *
    go_enter Tryz.func4, Tryz.ntmps4
    go_wp2_with fail
    rw [← hw0]
    clear hw0
    refine (new_tape w0).mono ?_
    rintro e w1 ⟨g, m, rfl, hb1, ht1⟩
    have c0 : w1.cell? ⟨w.heap.size, 0, none⟩ = some (.int .i64 p1) := (HBB.out.step hb1).cell (i := 0) rfl
    have c1 : w1.cell? ⟨w.heap.size, 1, none⟩ = some (.int .i64 p2) := (HBB.out.step hb1).cell (i := 1) rfl
    have HC1 := hide (HCX.out w1 g m hb1 ht1)
    have HB1 := hide hb1
    clear hb1 ht1 HCX
    go_wp2_with fail
    refine HC1.out.mono ?_
    rintro e w2 ⟨rfl, hk2, ht2⟩
    have HB2 : Hid (Below w0.heap.size w0 w2) := hide (HB1.out.trans (hk2.below fun k h => h))
    have HT2 := hide ht2
    clear hk2 ht2 c0 c1 HC1
    go_wp2_with fail
    refine (HAL.out w2 (bl_step HB0.out HB2.out)).mono ?_
    rintro e w3 ⟨rfl, hb3⟩
    have HB3 := hide (bl_step HB2.out hb3)
    have HT3 := hide (HT2.out.step hb3)
    have c0 : w3.cell? ⟨w.heap.size, 0, none⟩ = some (.int .i64 p1) := (HBB.out.step HB3.out).cell (i := 0) rfl
    have c1 : w3.cell? ⟨w.heap.size, 1, none⟩ = some (.int .i64 p2) := (HBB.out.step HB3.out).cell (i := 1) rfl
    clear hb3 HT2 HB2
    go_wp2_with fail
    refine (HRC.out w3 (bl_step HB0.out HB3.out)).mono ?_
    rintro e w4 ⟨rfl, hb4⟩
    have HB4 := hide (bl_step HB3.out hb4)
    have HT4 := hide (HT3.out.step hb4)
    clear hb4 HT3 HB3 c0 c1
    go_wp2_with fail
    refine (events_any (fun k => k < w0.heap.size) g m es w4 HT4.out (by rw [HEL.out, List.length_append]; have := HL1.out; have := HL2.out; omega)).mono ?_
    rintro e w5 ⟨A5, c5, rfl, hs5, hb5⟩
    have HB5 := hide (bl_step HB4.out hb5)
    have HS5 := hide hs5
    clear hs5 hb5 HT4 HB4
    go_wp2_with fail
    refine (HVE.out w5).mono ?_
    rintro e w6 ⟨v6, rfl, hown6, hb6⟩
    have HB6 := hide (bl_step HB5.out hb6)
    have HO6 := hide hown6; have HB56 := hide hb6
    clear hown6 hb6
    go_wp2_with fail
    refine (HLE.out w6).mono ?_
    rintro e w7 ⟨v7, rfl, hown7, hb7⟩
    obtain ⟨A8, c8, w8, hrun, hs8, hb8⟩ := ev_append es1 es2 v6 v7 w5.heap.size w6.heap.size w7 (own_step HO6.out hb7) hown7 HL1.out HL2.out (Nat.le_trans HB56.out.size hb7.size)
    have HB58 := hide (hb8 w5 (bl_step HB56.out hb7) (Nat.le_refl _))
    have HB8 : Hid (Below w.heap.size w w8) := hide (bl_step (bl_step HB0.out HB5.out) HB58.out)
    have HS8 := hide ((HS5.out.below HB58.out).more HB58.out.size)
    rw [← HEL.out] at hs8 hrun
    have HSS := hide hs8
    clear hs8 hb8 hown7 hb7 HO6 HB56 HB6
    go_wp2_with (at_builtin; refine wpList_append_run (.tmp 31) (.tmp 33) 50 rfl (by rfl) v6 v7 rfl rfl hrun ?_)
    clear hrun
    go_wp2_with fail
    refine (same_events es A5 A8 c5 c8 w8 HS8.out HSS.out (by rw [HEL.out, List.length_append]; have := HL1.out; have := HL2.out; unfold maxLen; omega)).mono ?_
    rintro e w9 ⟨rfl, hb9⟩
    go_wp2
    go_ret
    exact ⟨rfl, bl_step HB8.out hb9⟩
end Go.Proofs.YtgbimniloabjkaaGreatDoor
