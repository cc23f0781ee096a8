/- EngineFences: the law's function returns true. -/
import Derived.Test.YtgbimniloabjkaaGreatDoorAlive19
import Derived.Test.YtgbimniloabjkaaGreatDoorLarge19
import Derived.Test.YtgbimniloabjkaaGreatDoorEvAppend
import Derived.Test.YtgbimniloabjkaaGreatDoorRefEngine
namespace Go.Proofs.YtgbimniloabjkaaGreatDoor
open Go.RowKit Go.Shelf

/-- the events of the regions are those of their numbers -/
theorem gEv_hEv : ∀ (gs : List Gr) (i : Nat), (∀ g ∈ gs, g.1.n = g.2.length ∧ (g.1.v = 0 ∨ 3 ≤ g.1.v ∧ g.1.v ≤ 64) ∧ sizeOfReg g.1.v = (g.1.n : Int)) → fvEv i gs = hvEv i (gs.map (·.1)) ∧ fmEv i gs = hmEv i (gs.map (·.1))
  | [], _, _ => ⟨rfl, rfl⟩
  | g :: gs, i, h => by
    obtain ⟨a1, a2⟩ := gEv_hEv gs (i + 1) fun g' hg => h g' (List.mem_cons_of_mem _ hg)
    obtain ⟨hn, hv, hs⟩ := h g (List.mem_cons_self ..)
    have h4 : rgVEv g.1.v g.2.length = hvEv1 g.1.v ∧ rgLEv g.1.v g.2.length = hmEv1 g.1.v := by
      rw [← hn]
      unfold rgVEv hvEv1 rgLEv hmEv1
      by_cases h0 : g.1.v = 0
      · rw [if_pos h0, if_pos h0, if_pos h0, if_pos h0]
        have : g.1.n = 3 := by rw [h0] at hs; have e : sizeOfReg 0 = 3 := rfl; omega
        rw [this]
        exact ⟨rfl, rfl⟩
      · rw [if_neg h0, if_neg h0, if_neg h0, if_neg h0]
        have hsz : sizeOfReg g.1.v = g.1.v := by
          unfold sizeOfReg
          rw [if_neg h0, if_pos (by omega)]
        have : g.1.n = g.1.v.toNat := by omega
        rw [this]
        exact ⟨rfl, rfl⟩
    refine ⟨?_, ?_⟩
    · rw [fvEv, List.map_cons, hvEv, a1, h4.1]
    · rw [fmEv, List.map_cons, hmEv, a2, h4.2]
set_option maxRecDepth 1000000 in
set_option maxHeartbeats 8000000 in
theorem lawFences (gs : List Gr) (GA : Option Addr) (gc : Nat) (p : Pt) (w : World) (hs : Sl w w.heap.size GA (rgCells (gs.map (·.1)))) (hgs : GsOk w w.heap.size gs) (hgJ : ∀ g ∈ gs, PsJ g.2) (hp : PJ p) (hgn : gs.length ≤ maxLen) (hw : MW w) :
    Calls Tryz.prog 5 #[.slice GA gs.length gc, .agg #[.int .i64 p.1, .int .i64 p.2]] w fun e w' => e = .returned (.bool true) ∧ Below w.heap.size w w' := by
  obtain ⟨w0, hw0⟩ : ∃ w0, w0 = w.alloc (.cells #[.int .i64 p.1, .int .i64 p.2] 44) := ⟨_, rfl⟩
  have hb0 : Below w.heap.size w w0 := by rw [hw0]; exact bl_alloc (Below.refl _ _) _
  have B0 : Blk w0 w.heap.size 44 #[.int .i64 p.1, .int .i64 p.2] := by rw [hw0]; exact Blk.new _ _ _
  have mv : ∀ {A : Option Addr} {xs : List Value} {wk : World}, Sl w w.heap.size A xs → Below w.heap.size w wk → Sl wk wk.heap.size A xs := fun h hb => (h.below hb).more hb.size
  have HAL := hide (fun (w' : World) (hb : Below w.heap.size w w') => alive19 w' (hw.step hb))
  have HL0 := large16 (gs.map (·.1)) GA gc w0 (mv hs hb0) (by rw [List.length_map]; exact hgn)
  rw [List.length_map] at HL0
  have HL := hide HL0
  have HCX : Hid ((∀ r ∈ gs.map (·.1), r.n ≤ 250) → ∀ (w1 w2 : World) (g m : Nat), Below w.heap.size w w1 → Below w1.heap.size w1 w2 → Tp w2 (fun k => k < w1.heap.size) (some (g, m)) [] → Calls Tryz.prog 18 #[.pointer (some ⟨g, 0, none⟩), .slice GA gs.length gc, .agg #[.int .i64 p.1, .int .i64 p.2]] w2 fun e w' => e = .returned (.int .i64 (fenceA gs p)) ∧ KeepP (fun k => k < w1.heap.size) w2 w' ∧ Tp w' (fun k => k < w1.heap.size) (some (g, m)) (fenceEv gs)) := hide fun h250 w1 w2 g m hb1 hb ht => by
    have hbb : Below w.heap.size w w2 := bl_step hb1 hb
    have hlt : ∀ k, k < w.heap.size → k < w1.heap.size := fun k h => Nat.lt_of_lt_of_le h hb1.size
    exact efence_any (fun k => k < w1.heap.size) (some (g, m)) [] p hp w2 (fun k h => Nat.lt_of_lt_of_le h hb.size) (hlt _ hw.2) (hw.step hbb) ht (by simp) gs GA gc ((hs.below hbb).slP hlt) (fun g hg => ⟨(hgs g hg).1, ((hgs g hg).2.below hbb).slP hlt, hgJ g hg, by have := h250 g.1 (List.mem_map.2 ⟨g, hg, rfl⟩); have := (hgs g hg).1; omega⟩)
  have HRC : Hid (∀ w1 : World, Below w.heap.size w w1 → Calls Tryz.prog 22 #[.slice GA gs.length gc, .agg #[.int .i64 p.1, .int .i64 p.2]] w1 fun e w' => e = .returned (.int .i64 (fenceA gs p)) ∧ Below w1.heap.size w1 w') := hide fun w1 hb => rfence_any gs p hp GA gc w1 (mv hs hb) (fun g hg => ⟨(hgs g hg).1, mv (hgs g hg).2 hb, hgJ g hg⟩)
  have HCK : Hid (∀ w1 : World, Below w.heap.size w w1 → Calls Tryz.prog 19 #[.slice GA gs.length gc] w1 fun e w' => e = .returned (.int .i64 (fcheck (gs.map (·.1)))) ∧ w' = w1) := hide fun w1 hb => by
    have h := rfcheck_any (gs.map (·.1)) GA gc w1 (mv hs hb)
    rw [List.length_map] at h
    exact h
  have HEV : Hid (fcheck (gs.map (·.1)) = 0 → (∀ w1 : World, Below w.heap.size w w1 → Calls Tryz.prog 20 #[.slice GA gs.length gc] w1 (Evo (fvEv 0 gs) w1)) ∧ (∀ w1 : World, Below w.heap.size w w1 → Calls Tryz.prog 21 #[.slice GA gs.length gc] w1 (Evo (fmEv 0 gs) w1)) ∧ fenceEv gs = fvEv 0 gs ++ fmEv 0 gs ∧ (fvEv 0 gs).length ≤ 500000 ∧ (fmEv 0 gs).length ≤ 500000) := hide fun h0 => by
    have hz := fcheck_zero h0
    have h64 := fcheck_le h0
    rw [List.length_map] at h64
    obtain ⟨e1, e2⟩ := gEv_hEv gs 0 fun g hg => ⟨(hgs g hg).1, hz g.1 (List.mem_map.2 ⟨g, hg, rfl⟩)⟩
    have l1 := fvEv_length 0 gs
    have l2 := fmEv_length 0 gs
    refine ⟨fun w1 hb => ?_, fun w1 hb => ?_, by unfold fenceEv fenceVEv fenceMEv; rw [if_pos h0, if_pos h0], by omega, by omega⟩
    · have h := rhvEv_any (gs.map (·.1)) GA gc w1 (mv hs hb) (by rw [List.length_map]; exact h64) (fun r hr => (hz r hr).1)
      rw [List.length_map, ← e1] at h
      exact h
    · have h := rhmEv_any (gs.map (·.1)) GA gc w1 (mv hs hb) (by rw [List.length_map]; exact h64) (fun r hr => (hz r hr).1)
      rw [List.length_map, ← e2] at h
      exact h
  have HE0 : Hid (fcheck (gs.map (·.1)) ≠ 0 → fenceEv gs = []) := hide fun h0 => by unfold fenceEv fenceVEv fenceMEv; rw [if_neg h0, if_neg h0]; rfl
  generalize fcheck (gs.map (·.1)) = q at *
  generalize fvEv 0 gs = es1 at *
  generalize fmEv 0 gs = es2 at *
  generalize fenceEv gs = es at *
  generalize fenceA gs p = av at *
  generalize gs.length = n at *
  have HB0 := hide hb0; have HBB := hide B0
  clear HL0 mv hs hgs hgJ hp hgn hw hb0 B0
  obtain ⟨p1, p2⟩ := p
  dsimp only at *
  go_enter Tryz.func5, Tryz.ntmps5
  go_wp2_with fail
  rw [← hw0]
  clear hw0
  refine HL.out.mono ?_
  rintro e wl ⟨z, rfl, hz, hT, hbl⟩
  have HBL := hide (bl_step HB0.out hbl)
  have HBX := hide (HBB.out.step hbl)
  clear hbl HL HBB
  rcases hz with rfl | rfl
  · have h250 := (hT rfl).1
    have HC0 := hide (HCX.out h250)
    clear hT h250 HCX
    go_wp2_with fail
    refine (new_tape wl).mono ?_
    rintro e w1 ⟨g, m, rfl, hb1, ht1⟩
    have c0 : w1.cell? ⟨w.heap.size, 0, none⟩ = some (.int .i64 p1) := (HBX.out.step hb1).cell (i := 0) rfl
    have c1 : w1.cell? ⟨w.heap.size, 1, none⟩ = some (.int .i64 p2) := (HBX.out.step hb1).cell (i := 1) rfl
    have HC1 := hide (HC0.out wl w1 g m HBL.out hb1 ht1)
    have HB1 := hide hb1
    clear hb1 ht1 HC0
    go_wp2_with fail
    refine HC1.out.mono ?_
    rintro e w2 ⟨rfl, hk2, ht2⟩
    have HB2 : Hid (Below wl.heap.size wl w2) := hide (HB1.out.trans (hk2.below fun k h => h))
    have HT2 := hide ht2
    clear hk2 ht2 c0 c1 HC1
    go_wp2_with fail
    refine (HCK.out w2 (bl_step HBL.out HB2.out)).mono ?_
    rintro e w2' ⟨rfl, hw2⟩
    rw [hw2]
    clear hw2 w2'
    by_cases hq : q = 0
    · subst hq
      obtain ⟨HVE, HLE, HEL0, l1, l2⟩ := HEV.out rfl
      have HVE := hide HVE; have HLE := hide HLE; have HEL := hide HEL0; have HL1 := hide l1; have HL2 := hide l2
      clear HEL0 l1 l2 HEV HE0
      go_wp2_with fail
      refine (HVE.out w2 (bl_step HBL.out HB2.out)).mono ?_
      rintro e w6 ⟨v6, rfl, hown6, hb6⟩
      have HB6 := hide (bl_step HB2.out hb6)
      have HO6 := hide hown6; have HB26 := hide hb6
      clear hown6 hb6
      go_wp2_with fail
      refine (HLE.out w6 (bl_step HBL.out HB6.out)).mono ?_
      rintro e w7 ⟨v7, rfl, hown7, hb7⟩
      obtain ⟨A8, c8, w8, hrun, hs8, hb8⟩ := ev_append es1 es2 v6 v7 w2.heap.size w6.heap.size w7 (own_step HO6.out hb7) hown7 HL1.out HL2.out (Nat.le_trans HB26.out.size hb7.size)
      have HB28 := hide (hb8 w2 (bl_step HB26.out hb7) (Nat.le_refl _))
      rw [← HEL.out] at hs8 hrun
      have HS8 := hide hs8
      have HT8 := hide (HT2.out.step HB28.out)
      have HB8 : Hid (Below wl.heap.size wl w8) := hide (bl_step HB2.out HB28.out)
      have HLE' : Hid (es.length ≤ 1000000) := hide (by rw [HEL.out, List.length_append]; have := HL1.out; have := HL2.out; omega)
      clear hs8 hb8 hown7 hb7 HO6 HB26 HB6 HT2 HB2
      go_wp2_with (at_builtin; refine wpList_append_run (.tmp 21) (.tmp 23) 50 rfl (by rfl) v6 v7 rfl rfl hrun ?_)
      clear hrun
      go_wp2_with fail
      refine (HAL.out w8 (bl_step HBL.out HB8.out)).mono ?_
      rintro e w3 ⟨rfl, hb3⟩
      have HB3 := hide (bl_step HB8.out hb3)
      have HT3 := hide (HT8.out.step hb3)
      have HS3 := hide ((HS8.out.below hb3).more hb3.size)
      have c0 : w3.cell? ⟨w.heap.size, 0, none⟩ = some (.int .i64 p1) := (HBX.out.step HB3.out).cell (i := 0) rfl
      have c1 : w3.cell? ⟨w.heap.size, 1, none⟩ = some (.int .i64 p2) := (HBX.out.step HB3.out).cell (i := 1) rfl
      clear hb3 HT8 HB8 HS8
      go_wp2_with fail
      refine (HRC.out w3 (bl_step HBL.out HB3.out)).mono ?_
      rintro e w4 ⟨rfl, hb4⟩
      have HB4 := hide (bl_step HB3.out hb4)
      have HT4 := hide (HT3.out.step hb4)
      have HS4 := hide ((HS3.out.below hb4).more hb4.size)
      clear hb4 HT3 HB3 HS3 c0 c1
      go_wp2_with fail
      refine (events_any (fun k => k < wl.heap.size) g m es w4 HT4.out HLE'.out).mono ?_
      rintro e w5 ⟨A5, c5, rfl, hs5, hb5⟩
      have HB5 := hide (bl_step HB4.out hb5)
      have HS5 := hide hs5
      have HSS := hide ((HS4.out.below hb5).more hb5.size)
      clear hs5 hb5 HT4 HB4 HS4
      go_wp2_with fail
      refine (same_events es A5 A8 c5 c8 w5 HS5.out HSS.out (by have := HLE'.out; unfold maxLen; omega)).mono ?_
      rintro e w9 ⟨rfl, hb9⟩
      go_wp2
      go_ret
      exact ⟨rfl, bl_step (bl_step HBL.out HB5.out) hb9⟩
    · have hqb : (q == 0) = false := by simp [hq]
      have hes := HE0.out hq
      subst hes
      have HS8 : Hid (Sl w2 w2.heap.size none (evCs [])) := hide (Sl.nil _ _ _)
      have HLE' : Hid (([] : List Ev).length ≤ 1000000) := hide (by simp)
      clear HEV HE0
      go_wp2_with fail
      refine (HAL.out w2 (bl_step HBL.out HB2.out)).mono ?_
      rintro e w3 ⟨rfl, hb3⟩
      have HB3 := hide (bl_step HB2.out hb3)
      have HT3 := hide (HT2.out.step hb3)
      have HS3 := hide ((HS8.out.below hb3).more hb3.size)
      have c0 : w3.cell? ⟨w.heap.size, 0, none⟩ = some (.int .i64 p1) := (HBX.out.step HB3.out).cell (i := 0) rfl
      have c1 : w3.cell? ⟨w.heap.size, 1, none⟩ = some (.int .i64 p2) := (HBX.out.step HB3.out).cell (i := 1) rfl
      clear hb3 HT2 HB2 HS8
      go_wp2_with fail
      refine (HRC.out w3 (bl_step HBL.out HB3.out)).mono ?_
      rintro e w4 ⟨rfl, hb4⟩
      have HB4 := hide (bl_step HB3.out hb4)
      have HT4 := hide (HT3.out.step hb4)
      have HS4 := hide ((HS3.out.below hb4).more hb4.size)
      clear hb4 HT3 HB3 HS3 c0 c1
      go_wp2_with fail
      refine (events_any (fun k => k < wl.heap.size) g m [] w4 HT4.out HLE'.out).mono ?_
      rintro e w5 ⟨A5, c5, rfl, hs5, hb5⟩
      have HB5 := hide (bl_step HB4.out hb5)
      have HS5 := hide hs5
      have HSS := hide ((HS4.out.below hb5).more hb5.size)
      clear hs5 hb5 HT4 HB4 HS4
      go_wp2_with fail
      refine (same_events [] A5 none c5 0 w5 HS5.out HSS.out (by have := HLE'.out; unfold maxLen; omega)).mono ?_
      rintro e w9 ⟨rfl, hb9⟩
      go_wp2
      go_ret
      exact ⟨rfl, bl_step (bl_step HBL.out HB5.out) hb9⟩
  · clear HCX HRC HCK HEV HE0
    go_wp2_with fail
    refine (HAL.out wl HBL.out).mono ?_
    rintro e w2 ⟨rfl, hb2⟩
    go_wp2
    go_ret
    exact ⟨rfl, bl_step HBL.out hb2⟩
end Go.Proofs.YtgbimniloabjkaaGreatDoor
