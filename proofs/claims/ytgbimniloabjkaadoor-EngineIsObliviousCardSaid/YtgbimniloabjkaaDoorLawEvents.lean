/- EngineEvents: the law's function returns true. -/
import Derived.Test.YtgbimniloabjkaaDoorAlive19
import Derived.Test.YtgbimniloabjkaaDoorLarge19
import Derived.Test.YtgbimniloabjkaaDoorRefEvents19
namespace Go.Proofs.YtgbimniloabjkaaDoor
open Go.RowKit Go.Shelf

/-- the structure of the request's regions is the header's -/
theorem events_zip : ∀ (gs : List Gr) (hrs : List Rg) (i : Nat), gs.length = hrs.length → (∀ g ∈ gs, g.1.n = g.2.length) → (gs.zip hrs).any szBad = false → (gs.zip hrs).any kdBad = false → hrs.any wrongRg = false →
    fvEv i gs = hvEv i hrs ∧ fmEv i gs = hmEv i hrs ∧ fcheckL (gs.map (·.1)) = 0
  | [], [], _, _, _, _, _, _ => ⟨rfl, rfl, rfl⟩
  | [], _ :: _, _, h, _, _, _, _ => by simp at h
  | _ :: _, [], _, h, _, _, _, _ => by simp at h
  | g :: gs, r :: hrs, i, hl, hn, hs, hk, hw => by
    rw [List.zip_cons_cons, List.any_cons, Bool.or_eq_false_iff] at hs hk
    rw [List.any_cons, Bool.or_eq_false_iff] at hw
    obtain ⟨a1, a2, a3⟩ := events_zip gs hrs (i + 1) (by simpa using hl) (fun g' h => hn g' (List.mem_cons_of_mem _ h)) hs.2 hk.2 hw.2
    have hgn := hn g (List.mem_cons_self ..)
    have h1 : (g.1.n : Int) = sizeOfReg r.v := by have := hs.1; unfold szBad at this; simpa using this
    have h2 : g.1.v = r.v := by
      have := hk.1
      unfold kdBad at this
      rw [Bool.or_eq_false_iff] at this
      simpa using this.2
    have h3 : sizeOfReg r.v ≠ 0 := by have := hw.1; unfold wrongRg at this; simpa using this
    have h4 : rgVEv g.1.v g.2.length = hvEv1 r.v ∧ rgLEv g.1.v g.2.length = hmEv1 r.v := by
      rw [h2, ← hgn]
      unfold rgVEv hvEv1 rgLEv hmEv1
      by_cases h0 : r.v = 0
      · rw [if_pos h0, if_pos h0, if_pos h0, if_pos h0]
        have : g.1.n = 3 := by rw [h0] at h1; have e : sizeOfReg 0 = 3 := rfl; omega
        rw [this]
        exact ⟨rfl, rfl⟩
      · rw [if_neg h0, if_neg h0, if_neg h0, if_neg h0]
        have hsz : 3 ≤ r.v ∧ r.v ≤ 64 ∧ sizeOfReg r.v = r.v := by
          unfold sizeOfReg at h3 ⊢
          rw [if_neg h0] at h3 ⊢
          by_cases hb : 3 ≤ r.v ∧ r.v ≤ 64
          · rw [if_pos hb]; exact ⟨hb.1, hb.2, rfl⟩
          · rw [if_neg hb] at h3; exact absurd rfl h3
        have : g.1.n = r.v.toNat := by omega
        rw [this]
        exact ⟨rfl, rfl⟩
    refine ⟨?_, ?_, ?_⟩
    · rw [fvEv, hvEv, a1, h4.1]
    · rw [fmEv, hmEv, a2, h4.2]
    · show fcheckL (g.1 :: gs.map (·.1)) = 0
      unfold fcheckL
      rw [h2, if_neg h3, if_pos h1.symm]
      exact a3
theorem ansEv_length (op vs : Int) (hrs : List Rg) (pts : Int) (gs : List Gr) (ps : List Pt) (qs : List ((Int × Int) × Int)) : (ansEv op vs hrs pts gs ps qs).length ≤ 500000 := by
  unfold ansEv
  split
  · simp
  · unfold opEv
    split
    · unfold convexEv
      have h1 := rgVEv_len (ps.length - 1)
      have h2 := (edgeN_le (ps.length - 1)).2
      rw [List.length_append, locEv_length, List.length_range]; omega
    · split
      · unfold fenceEv
        have h1 := fenceVEv_length gs
        have h2 : (fenceMEv gs).length ≤ 4160 := by
          unfold fenceMEv
          split
          · rename_i h
            have h3 := fmEv_length 0 gs
            have h4 : gs.length ≤ 64 := by
              unfold fcheck at h
              split at h
              · omega
              · rename_i h5; rw [List.length_map] at h5; omega
            omega
          · simp
        rw [List.length_append]; omega
      · simp
/-- the law in plain words -/
theorem ansEv_err {op vs : Int} {hrs : List Rg} {pts : Int} {gs : List Gr} {ps : List Pt} {qs : List ((Int × Int) × Int)} (h : (ansV op vs hrs pts gs ps qs).2 ≠ 0) : ansEv op vs hrs pts gs ps qs = [] := by
  unfold ansV at h
  unfold ansEv
  split
  · rfl
  · rename_i he
    rw [if_neg he] at h
    by_cases h5 : op = 5
    · rw [h5]; rfl
    · rw [if_neg h5] at h; exact absurd rfl h
theorem ansEv_ok {op vs : Int} {hrs : List Rg} {pts : Int} {gs : List Gr} {ps : List Pt} {qs : List ((Int × Int) × Int)} (hn : ∀ g ∈ gs, g.1.n = g.2.length) (h : (ansV op vs hrs pts gs ps qs).2 = 0) :
    ansEv op vs hrs pts gs ps qs = evH op vs hrs ∧ (op = 3 → 3 ≤ vs ∧ vs ≤ 64) ∧ (op = 4 → 1 ≤ hrs.length ∧ hrs.length ≤ 64 ∧ ∀ r ∈ hrs, r.v = 0 ∨ 3 ≤ r.v ∧ r.v ≤ 64) := by
  unfold ansV at h
  by_cases he : (hencode op vs hrs pts gs ps qs).2 ≠ 0
  · rw [if_pos he] at h; exact absurd h he
  have he0 : (hencode op vs hrs pts gs ps qs).2 = 0 := by omega
  obtain ⟨hc, hgl, hpl, _, hsz, hkd⟩ := hencode_ok he0
  obtain ⟨o1, o5, c3, c4, c5, _⟩ := hcheck_zero hc
  unfold ansEv
  rw [if_neg he]
  unfold opEv evH
  by_cases h3 : op = 3
  · rw [if_pos h3, if_pos h3]
    have hv := c3 h3
    have hl : (ps.length : Int) = vs + 1 := by rw [h3] at hpl; exact hpl
    have e : ps.length - 1 = vs.toNat := by omega
    rw [e]
    exact ⟨rfl, fun _ => hv, fun h4 => by omega⟩
  · rw [if_neg h3, if_neg h3]
    by_cases h4 : op = 4
    · rw [if_pos h4, if_pos h4]
      obtain ⟨hl1, hl64, hwr⟩ := c5 (by omega)
      obtain ⟨a1, a2, a3⟩ := events_zip gs hrs 0 hgl hn hsz hkd hwr
      have hf : fcheck (gs.map (·.1)) = 0 := by
        unfold fcheck
        rw [if_neg (by rw [List.length_map]; omega)]
        exact a3
      refine ⟨?_, fun h => absurd h h3, fun _ => ⟨hl1, hl64, fun r hr => ?_⟩⟩
      · unfold fenceEv fenceVEv fenceMEv
        rw [if_pos hf, if_pos hf, a1, a2]
      · have hw : wrongRg r = false := by
          rw [List.any_eq_false] at hwr
          simpa using hwr r hr
        unfold wrongRg at hw
        have hs0 : sizeOfReg r.v ≠ 0 := by simpa using hw
        unfold sizeOfReg at hs0
        by_cases h0 : r.v = 0
        · exact .inl h0
        · rw [if_neg h0] at hs0
          by_cases hb : 3 ≤ r.v ∧ r.v ≤ 64
          · exact .inr hb
          · rw [if_neg hb] at hs0; exact absurd rfl hs0
    · rw [if_neg h4, if_neg h4]
      exact ⟨rfl, fun h => absurd h h3, fun h => absurd h h4⟩
/-- a new tape -/
theorem new_at (w : World) : Calls Tryd.prog 10 #[] w fun e w' => ∃ g m, e = .returned (.pointer (some ⟨g, 0, none⟩)) ∧ Below w.heap.size w w' ∧ Tp w' (fun k => k < w.heap.size) (some (g, m)) [] := by
  refine (new_any (fun k => k < w.heap.size) w fun k h => h).mono ?_
  rintro e w' ⟨rfl, hb, ht⟩
  exact ⟨w.heap.size + 1, w.heap.size, rfl, hb, ht⟩

section
variable (op vs pts : Int) (hrs : List Rg) (HA : Option Addr) (hc : Nat) (gs : List Gr) (GA : Option Addr) (gc : Nat) (ps : List Pt) (PA : Option Addr) (pc : Nat) (qs : List ((Int × Int) × Int)) (QA : Option Addr) (qc : Nat) (w : World)
variable (hh : Sl w w.heap.size HA (rgCells hrs)) (hgc : Sl w w.heap.size GA (rgCells (gs.map (·.1)))) (hgs : GsOk w w.heap.size gs) (hps : Sl w w.heap.size PA (ptCs ps)) (hqs : Sl w w.heap.size QA (quCs qs)) (hpJ : PsJ ps) (hgJ : ∀ g ∈ gs, PsJ g.2)
variable (hn : hrs.length ≤ maxLen) (hgn : gs.length ≤ maxLen) (hcap : ps.length ≤ pc) (hw : MW w)
include hh hgc hgs hps hqs hpJ hgJ hn hgn hcap hw
omit hgn in
/-- Answer with a tape made behind the request -/
theorem answer_tape (w1 w' : World) (g m : Nat) (hb : Below w.heap.size w w1) (hb' : Below w1.heap.size w1 w') (h250 : ∀ g ∈ gs, g.1.n ≤ 250) (ht : Tp w' (fun k => k < w1.heap.size) (some (g, m)) []) :
    Calls Tryd.prog 8 #[.pointer (some ⟨g, 0, none⟩), .agg #[.int .i64 op, .int .i64 vs, .slice HA hrs.length hc, .int .i64 pts, .slice GA gs.length gc, .slice PA ps.length pc, .slice QA qs.length qc]] w' fun e w2 => e = .returned (.tuple #[.agg #[.int .i64 (ansV op vs hrs pts gs ps qs).1, .int .i64 0, .slice none 0 0], .int .i64 (ansV op vs hrs pts gs ps qs).2]) ∧ KeepP (fun k => k < w1.heap.size) w' w2 ∧ Tp w2 (fun k => k < w1.heap.size) (some (g, m)) (ansEv op vs hrs pts gs ps qs) := by
  have hbb : Below w.heap.size w w' := bl_step hb hb'
  have hlt : ∀ k, k < w.heap.size → k < w1.heap.size := fun k h => Nat.lt_of_lt_of_le h hb.size
  have h := answer_any (fun k => k < w1.heap.size) (some (g, m)) [] op vs pts hrs HA hc gs GA gc ps PA pc qs QA qc w' (fun k h => Nat.lt_of_lt_of_le h hb'.size) (hlt _ hw.2) (hw.step hbb) ht (by simp) hpJ ((hps.below hbb).slP hlt) hcap ((hgc.below hbb).slP hlt) (fun g hg => ⟨(hgs g hg).1, ((hgs g hg).2.below hbb).slP hlt, hgJ g hg, by have := h250 g hg; have := (hgs g hg).1; omega⟩) ((hh.below hbb).slP hlt) hn ((hqs.below hbb).more hbb.size)
  exact h

set_option maxRecDepth 1000000 in
set_option maxHeartbeats 8000000 in
theorem lawEvents : Calls Tryd.prog 4 #[.agg #[.int .i64 op, .int .i64 vs, .slice HA hrs.length hc, .int .i64 pts, .slice GA gs.length gc, .slice PA ps.length pc, .slice QA qs.length qc]] w fun e w' => e = .returned (.bool true) ∧ Below w.heap.size w w' := by
  obtain ⟨rb, hrb⟩ : ∃ rb, rb = w.heap.size := ⟨_, rfl⟩
  obtain ⟨w0, hw0⟩ : ∃ w0, w0 = w.alloc (.cells #[.int .i64 op, .int .i64 vs, .slice HA hrs.length hc, .int .i64 pts, .slice GA gs.length gc, .slice PA ps.length pc, .slice QA qs.length qc] 28) := ⟨_, rfl⟩
  have hb0 : Below w.heap.size w w0 := by rw [hw0]; exact bl_alloc (Below.refl _ _) _
  have B0 : Blk w0 rb 28 #[.int .i64 op, .int .i64 vs, .slice HA hrs.length hc, .int .i64 pts, .slice GA gs.length gc, .slice PA ps.length pc, .slice QA qs.length qc] := by rw [hw0, hrb]; exact Blk.new _ _ _
  have L := large19 op vs pts hrs HA hc gs GA gc ps PA pc qs QA qc w0 ((hgc.below hb0).more hb0.size) hgn
  have HL := hide L; clear L
  have HAN := hide (answer_tape op vs pts hrs HA hc gs GA gc ps PA pc qs QA qc w hh hgc hgs hps hqs hpJ hgJ hn hcap hw)
  have HAL := hide (fun (w' : World) (hb : Below w.heap.size w w') => alive19 w' (hw.step hb))
  have HE0 := hide (fun h => ansEv_err (op := op) (vs := vs) (hrs := hrs) (pts := pts) (gs := gs) (ps := ps) (qs := qs) h)
  have HE1 := hide (fun h => ansEv_ok (op := op) (vs := vs) (hrs := hrs) (pts := pts) (gs := gs) (ps := ps) (qs := qs) (fun g hg => (hgs g hg).1) h)
  have HEL := hide (ansEv_length op vs hrs pts gs ps qs)
  have HRE := hide (fun (w' : World) (hb : Below w.heap.size w w') => revents_any op vs pts hrs HA hc w' ((hh.below hb).more hb.size))
  obtain ⟨⟨val, err⟩, hE⟩ : ∃ E, E = ansV op vs hrs pts gs ps qs := ⟨_, rfl⟩
  obtain ⟨es, hes⟩ : ∃ es, es = ansEv op vs hrs pts gs ps qs := ⟨_, rfl⟩
  rw [← hE, ← hes] at HAN HE0 HE1
  rw [← hes] at HEL
  have hmix : Tryd.prog.follows .mixedOrders = true := by kernel_rfl
  clear hE hes hh hgc hgs hps hqs hpJ hgJ hn hgn hcap hw
  refine (callsIn_wide (n := 6)).1 ?_
  refine callsIn_of_wp Tryd.func4 rfl trivial ?_ rfl
  simp only [Tryd.ntmps4, List.size_toArray, List.length_cons, List.length_nil, Nat.reduceAdd, Nat.reduceSub, Array.replicate_succ, Array.replicate_zero, List.push_toArray, List.append_toArray, List.nil_append, List.cons_append]
  gi_wp2_with fail
  rw [← hw0, ← hrb]
  have HRB := hide hrb
  clear hw0 hrb
  refine ⟨trivial, ?_⟩
  refine (callsIn_wide.2 HL.out).mono ?_
  rintro e w1 ⟨z, rfl, hz, hT, hb1⟩
  have HB1 := bl_step hb0 hb1
  have B1 := B0.step hb1
  clear B0 hb0 hb1 HL
  rcases hz with rfl | rfl
  · have h250 := (hT rfl).1
    gi_wp2_with fail
    refine ⟨trivial, ?_⟩
    refine (callsIn_wide.2 (new_at w1)).mono ?_
    rintro e w2 ⟨g, m, rfl, hb2, ht2⟩
    have B2 := B1.step hb2
    have HA1 := hide (HAN.out w1 w2 g m HB1 hb2 h250 ht2)
    have b0 := B2.cell (i := 0) rfl
    have b1 := B2.cell (i := 1) rfl
    have b2 := B2.cell (i := 2) rfl
    have b3 := B2.cell (i := 3) rfl
    have b4 := B2.cell (i := 4) rfl
    have b5 := B2.cell (i := 5) rfl
    have b6 := B2.cell (i := 6) rfl
    have HB12 := hide hb2
    have hrl : rb < w1.heap.size := B1.lt
    have HRL := hide hrl
    clear hT h250 HAN ht2 hb2 B1 hrl
    gi_wp2_with fail
    refine ⟨trivial, ?_⟩
    refine (callsIn_wide.2 HA1.out).mono ?_
    rintro e w3 ⟨rfl, hk3, ht3⟩
    have B3 := B2.kept hk3 HRL.out
    have HB3 : Below w.heap.size w w3 := (bl_step HB1 HB12.out).trans (hk3.below fun k h => Nat.lt_of_lt_of_le h HB1.size)
    clear b0 b1 b2 b3 b4 b5 b6 B2 HA1 hk3
    obtain ⟨w4, hw4⟩ : ∃ w4, w4 = w3.alloc (.cells #[.int .i64 val, .int .i64 0, .slice none 0 0] 33) := ⟨_, rfl⟩
    have hb4 : Below w3.heap.size w3 w4 := by rw [hw4]; exact bl_alloc (Below.refl _ _) _
    have HB4 := bl_step HB3 hb4
    have B4 := B3.step hb4
    have ht4 := ht3.step hb4
    clear B3 ht3 hb4
    by_cases he : err = 0
    · subst he
      obtain ⟨he1, h3, h4⟩ := HE1.out rfl
      have HE2 := hide he1
      gi_wp2_with fail
      rw [← hw4]
      clear hw4 he1
      have hS : Blk w4.drew rb 28 #[.int .i64 op, .int .i64 vs, .slice HA hrs.length hc, .int .i64 pts, .slice GA gs.length gc, .slice PA ps.length pc, .slice QA qs.length qc] := B4.drew
      refine startH 1000 (S := fun w' => Blk w' rb 28 #[.int .i64 op, .int .i64 vs, .slice HA hrs.length hc, .int .i64 pts, .slice GA gs.length gc, .slice PA ps.length pc, .slice QA qs.length qc]) hmix ?_
      refine oneH (i := 0) (by kernel_rfl) rfl ?_
      intro K hK
      rw [if_pos (by rfl)]
      go_simp
      refine ⟨trivial, ?_⟩
      refine (callsIn_wide.2 (HAL.out w4.drew (bl_drew HB4))).mono ?_
      rintro e w5 ⟨rfl, hb5⟩
      have hS5 := hS.step hb5
      have HB5 := bl_step (bl_drew HB4) hb5
      have ht5 := ht4.drew.step hb5
      refine hK.out _ _ (fun _ => hS5) ?_
      clear hK K
      (try simp only [Act.put, List.getElem_toArray, List.getElem_cons_succ, List.getElem_cons_zero, List.setIfInBounds_toArray, List.set_cons_zero, List.set_cons_succ])
      refine' takeH (i := 1) (v := _) (noDefer_of (by kernel_rfl)) rfl (by kernel_rfl) (by kernel_rfl) (by kernel_rfl) (fun _ _ _ h => h) (by kernel_rfl) ⟨Or.inl ⟨by rfl, ?hy1k1⟩, fun _ => rfl⟩ hS5 ?rest1k1
      case hy1k1 =>
        intro w' hSw
        go_simp
        rfl
      simp only [Act.put, List.getElem_toArray, List.getElem_cons_succ, List.getElem_cons_zero, List.setIfInBounds_toArray, List.set_cons_zero, List.set_cons_succ]
      refine' takeH (i := 2) (v := _) (noDefer_of (by kernel_rfl)) rfl (by kernel_rfl) (by kernel_rfl) (by kernel_rfl) (fun _ _ _ h => h) (by kernel_rfl) ⟨Or.inl ⟨by rfl, ?hy2k2⟩, fun _ => rfl⟩ hS5 ?rest2k2
      case hy2k2 =>
        intro w' hSw
        go_simp
        rfl
      simp only [Act.put, List.getElem_toArray, List.getElem_cons_succ, List.getElem_cons_zero, List.setIfInBounds_toArray, List.set_cons_zero, List.set_cons_succ]
      refine' takeH (i := 4) (v := _) (noDefer_of (by kernel_rfl)) rfl (by kernel_rfl) (by kernel_rfl) (by kernel_rfl) (fun _ _ _ h => h) (by kernel_rfl) ⟨Or.inl ⟨by rfl, ?hy4k3⟩, fun _ => rfl⟩ hS5 ?rest4k3
      case hy4k3 =>
        intro w' hSw
        go_simp
        rfl
      simp only [Act.put, List.getElem_toArray, List.getElem_cons_succ, List.getElem_cons_zero, List.setIfInBounds_toArray, List.set_cons_zero, List.set_cons_succ]
      refine' takeH (i := 5) (v := _) (noDefer_of (by kernel_rfl)) rfl (by kernel_rfl) (by kernel_rfl) (by kernel_rfl) (fun _ _ _ h => h) (by kernel_rfl) ⟨Or.inl ⟨by rfl, ?hy5k4⟩, fun _ => rfl⟩ hS5 ?rest5k4
      case hy5k4 =>
        intro w' hSw
        have z0 := hSw.cell (i := 0) rfl
        have z1 := hSw.cell (i := 1) rfl
        have z2 := hSw.cell (i := 2) rfl
        have z3 := hSw.cell (i := 3) rfl
        go_simp
        rfl
      simp only [Act.put, List.getElem_toArray, List.getElem_cons_succ, List.getElem_cons_zero, List.setIfInBounds_toArray, List.set_cons_zero, List.set_cons_succ]
      refine oneH (i := 3) (by kernel_rfl) rfl ?_
      intro K hK
      rw [if_pos (by rfl)]
      go_simp
      refine ⟨trivial, ?_⟩
      refine (callsIn_wide.2 (events_any (fun k => k < w1.heap.size) g m es w5 ht5 (by have := HEL.out; omega))).mono ?_
      rintro e w6 ⟨A6, c6, rfl, hs6, hb6⟩
      have hS6 := hS5.step hb6
      have HB6 := bl_step HB5 hb6
      refine hK.out _ _ (fun _ => hS6) ?_
      clear hK K
      (try simp only [Act.put, List.getElem_toArray, List.getElem_cons_succ, List.getElem_cons_zero, List.setIfInBounds_toArray, List.set_cons_zero, List.set_cons_succ])
      refine oneH (i := 6) (by kernel_rfl) rfl ?_
      intro K hK
      rw [if_pos (by rfl)]
      go_simp
      refine ⟨trivial, ?_⟩
      refine (callsIn_wide.2 (HRE.out w6 HB6 h3 h4)).mono ?_
      rintro e w7 ⟨A7, c7, rfl, hs7, hb7⟩
      have hS7 := hS6.step hb7
      have HB7 := bl_step HB6 hb7
      rw [← HE2.out] at hs7
      rw [← HE2.out]
      have hs6' := (hs6.below hb7).more hb7.size
      refine hK.out _ _ (fun _ => hS7) ?_
      clear hK K
      (try simp only [Act.put, List.getElem_toArray, List.getElem_cons_succ, List.getElem_cons_zero, List.setIfInBounds_toArray, List.set_cons_zero, List.set_cons_succ])
      refine oneH (i := 7) (by kernel_rfl) rfl ?_
      intro K hK
      rw [if_pos (by rfl)]
      go_simp
      refine ⟨trivial, ?_⟩
      refine (callsIn_wide.2 (same_events es A6 A7 c6 c7 w7 hs6' hs7 (by have := HEL.out; unfold maxLen; omega))).mono ?_
      rintro e w8 ⟨rfl, hb8⟩
      have hS8 := hS7.step hb8
      have HB8 := bl_step HB7 hb8
      refine hK.out _ _ (fun _ => hS8) ?_
      clear hK K
      (try simp only [Act.put, List.getElem_toArray, List.getElem_cons_succ, List.getElem_cons_zero, List.setIfInBounds_toArray, List.set_cons_zero, List.set_cons_succ])
      refine' takeH (i := 8) (v := _) (noDefer_of (by kernel_rfl)) rfl (by kernel_rfl) (by kernel_rfl) (by kernel_rfl) (fun _ _ _ h => h) (by kernel_rfl) ⟨Or.inl ⟨by rfl, ?hy8k5⟩, fun _ => rfl⟩ hS8 ?rest8k5
      case hy8k5 =>
        intro w' hSw
        go_simp
        rfl
      simp only [Act.put, List.getElem_toArray, List.getElem_cons_succ, List.getElem_cons_zero, List.setIfInBounds_toArray, List.set_cons_zero, List.set_cons_succ]
      refine' takeH (i := 9) (v := _) (noDefer_of (by kernel_rfl)) rfl (by kernel_rfl) (by kernel_rfl) (by kernel_rfl) (fun _ _ _ h => h) (by kernel_rfl) ⟨Or.inl ⟨by rfl, ?hy9k6⟩, fun _ => rfl⟩ hS8 ?rest9k6
      case hy9k6 =>
        intro w' hSw
        go_simp
        rfl
      simp only [Act.put, List.getElem_toArray, List.getElem_cons_succ, List.getElem_cons_zero, List.setIfInBounds_toArray, List.set_cons_zero, List.set_cons_succ]
      refine doneH (by kernel_rfl) ?_ _
      gi_wp2
      go_ret
      exact ⟨rfl, HB8⟩
    · have hes := HE0.out he
      subst hes
      clear HE0 HE1 HRE B4
      gi_wp2_with fail
      rw [← hw4]
      clear hw4
      refine ⟨trivial, ?_⟩
      refine (callsIn_wide.2 (HAL.out w4 HB4)).mono ?_
      rintro e w5 ⟨rfl, hb5⟩
      have ht5 := ht4.step hb5
      gi_wp2_with fail
      refine ⟨trivial, ?_⟩
      refine (callsIn_wide.2 (len_any (fun k => k < w1.heap.size) g m [] w5 ht5)).mono ?_
      rintro e w6 ⟨rfl, k, rfl⟩
      gi_wp2
      go_ret
      exact ⟨rfl, bl_drewN (bl_step HB4 hb5) k⟩
  · clear HAN HRE HE0 HE1
    gi_wp2_with fail
    refine ⟨trivial, ?_⟩
    refine (callsIn_wide.2 (HAL.out w1 HB1)).mono ?_
    rintro e w2 ⟨rfl, hb2⟩
    gi_wp2
    go_ret
    exact ⟨rfl, bl_step HB1 hb2⟩
end
end Go.Proofs.YtgbimniloabjkaaDoor
