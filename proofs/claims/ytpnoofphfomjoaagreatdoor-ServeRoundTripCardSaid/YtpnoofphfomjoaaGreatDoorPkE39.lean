/- BatchRun -/
import Derived.Test.YtpnoofphfomjoaaGreatDoorPkE38
namespace Go.Proofs.YtpnoofphfomjoaaGreatDoor
open Go.RowKit Go.Shelf
set_option maxRecDepth 100000 in
set_option maxHeartbeats 2000000 in
theorem bcheck_any (gs : List Gr) (GA : Option Addr) (gc : Nat) (n : Nat) (w : World) (hs : Sl w w.heap.size GA (rgCells (gs.map (·.1)))) :
    Calls Tryz.prog 87 #[.slice GA gs.length gc, .int .i64 (n : Int)] w fun e w' => e = .returned (.int .i64 (bcheck gs n)) ∧ Below w.heap.size w w' := by
  have HC0 := fcheck_any (gs.map (·.1)) GA gc w hs
  rw [List.length_map] at HC0
  have HC := hide HC0
  obtain ⟨F, hF⟩ : ∃ F, F = fcheck (gs.map (·.1)) := ⟨_, rfl⟩
  have HB : Hid (bcheck gs n = if F ≠ 0 then F else if n < 1 ∨ 4096 < n then 6 else 0) := by rw [hF]; exact rfl
  rw [← hF] at HC
  clear HC0 hF hs
  by_cases h0 : F = 0
  · by_cases h1 : (n : Int) < 1
    · have hr : bcheck gs n = 6 := by rw [HB.out, if_neg (by simpa using h0), if_pos (by omega)]
      rw [hr]
      subst h0
      clear hr HB
      go_enter Tryz.func87, Tryz.ntmps87
      go_wp2_with fail
      refine HC.out.mono ?_
      rintro e w' ⟨rfl, hb⟩
      go_wp2
      go_ret
      exact ⟨rfl, hb⟩
    · by_cases h2 : (4096 : Int) < (n : Int)
      · have hr : bcheck gs n = 6 := by rw [HB.out, if_neg (by simpa using h0), if_pos (by omega)]
        rw [hr]
        subst h0
        clear hr HB
        go_enter Tryz.func87, Tryz.ntmps87
        go_wp2_with fail
        refine HC.out.mono ?_
        rintro e w' ⟨rfl, hb⟩
        go_wp2
        go_ret
        exact ⟨rfl, hb⟩
      · have hr : bcheck gs n = 0 := by rw [HB.out, if_neg (by simpa using h0), if_neg (by omega)]
        rw [hr]
        subst h0
        clear hr HB
        go_enter Tryz.func87, Tryz.ntmps87
        go_wp2_with fail
        refine HC.out.mono ?_
        rintro e w' ⟨rfl, hb⟩
        go_wp2
        go_ret
        exact ⟨rfl, hb⟩
  · have hr : bcheck gs n = F := by rw [HB.out, if_pos h0]
    rw [hr]
    clear hr HB
    go_enter Tryz.func87, Tryz.ntmps87
    go_wp2_with fail
    refine HC.out.mono ?_
    rintro e w' ⟨rfl, hb⟩
    go_wp2
    go_ret
    exact ⟨rfl, hb⟩
theorem results_c3 {fn : Func} {p u : Tmp} {tmps : Array Value} {w : World} {g : Nat} {v0 v1 v2 : Value} (h : fn.results = #[.cell p 33, .tmp u])
    (hp : tmps.getD p undef = .pointer (some ⟨g, 0, none⟩)) (hb : Blk w g 33 #[v0, v1, v2]) :
    (results fn tmps).run Tryz.prog w = .ok (.tuple #[.agg #[v0, v1, v2], tmps.getD u undef]) w := by
  have c0 := hb.cell (i := 0) rfl
  have c1 := hb.cell (i := 1) rfl
  have c2 := hb.cell (i := 2) rfl
  have hp' : tmps[p]?.getD undef = .pointer (some ⟨g, 0, none⟩) := by rw [← hp]; simp
  simp [results, h, hp', go_sem, c0, c1, c2]
/-- an answer and an error are handed back; the events es' are on the tape -/
def AnsOut (P : Nat → Prop) (t : Option (Nat × Nat)) (es' : List Ev) (r : Ans × Int) (w : World) (e : Ending) (w' : World) : Prop :=
  ∃ A c, e = .returned (.tuple #[.agg #[.int .i64 r.1.val, .int .i64 r.1.cnt, .slice A r.1.recs.length c], .int .i64 r.2]) ∧ KeepP P w w' ∧ Tp w' P t es' ∧ Sl w' w'.heap.size A (recCs r.1.recs)
theorem Sl.set_far {w : World} {g : Nat} {xs : List Value} {b o : Nat} (h : Sl w w.heap.size (some ⟨g, 0, none⟩) xs) (hne : g ≠ b) (u : Value) : Sl (w.setCell ⟨b, o, none⟩ u) (w.setCell ⟨b, o, none⟩ u).heap.size (some ⟨g, 0, none⟩) xs :=
  (h.far (p := ⟨b, o, none⟩) (fun _ x hx => by cases hx; exact hne) u).more (by simp)
set_option maxRecDepth 100000 in
set_option maxHeartbeats 4000000 in
theorem run_any (P : Nat → Prop) (t : Option (Nat × Nat)) (es : List Ev) (gs : List Gr) (GA : Option Addr) (gc : Nat) (qs : List ((Int × Int) × Int)) (QA : Option Addr) (qc : Nat) (hqp : ∀ q ∈ qs, PJ q.1) (hqu : ∀ q ∈ qs, U64 q.2) (w : World) (hP : ∀ k, P k → k < w.heap.size) (hg0 : P 1)
    (hs : SlP w P GA (rgCells (gs.map (·.1)))) (hgs : GsP w P gs) (hqs : SlP w P QA (quCs qs)) (hw : MW w) (ht : Tp w P t es) (hl : t = none ∨ es.length + 4161 * qs.length + (netw (lg qs.length)).length ≤ 600000) :
    Calls Tryz.prog 50 #[.pointer (tapeA t), .slice GA gs.length gc, .slice QA qs.length qc] w (AnsOut P t (es ++ batchEv gs qs.length) (hbatch gs qs) w) := by
  obtain ⟨rb, hrb⟩ : ∃ rb, rb = w.heap.size := ⟨_, rfl⟩
  obtain ⟨w0, hw0⟩ : ∃ w0, w0 = w.alloc (.cells #[.int .i64 0, .int .i64 0, .slice none 0 0] 33) := ⟨_, rfl⟩
  have hb0 : Below w.heap.size w w0 := by rw [hw0]; exact bl_alloc (Below.refl _ _) _
  have R0 : Blk w0 rb 33 #[.int .i64 0, .int .i64 0, .slice none 0 0] := by rw [hw0, hrb]; exact Blk.new _ _ _
  have hnP : ¬ P rb := fun h => by have := hP _ h; omega
  have HC := hide (bcheck_any gs GA gc qs.length w0 (((hs.sl hP).below hb0).more hb0.size))
  by_cases hc : bcheck gs qs.length = 0
  · have hn : 1 ≤ qs.length ∧ qs.length ≤ 4096 := by
      unfold bcheck at hc
      split at hc
      · rename_i h; exact absurd hc h
      · split at hc
        · cases hc
        · omega
    have hv : hbatch gs qs = (⟨bif fenceOk gs then 1 else 0, cntL (hrecs gs qs), isort rkey (hrecs gs qs)⟩, 0) := by unfold hbatch; rw [if_neg (by simpa using hc)]
    have he : batchEv gs qs.length = fenceVEv gs ++ itemEv gs qs.length ++ cntEv qs.length ++ pairEv (netw (lg qs.length)) := by unfold batchEv; rw [if_neg (by simpa using hc)]
    rw [hv, he]
    rw [hc] at HC
    have hrl : (hrecs gs qs).length = qs.length := by unfold hrecs; rw [List.length_map]
    have HCLN := hide (hrecs_cln gs hqu)
    have HP := hide hP; have HG := hide hg0; have HS := hide hs; have HGS := hide hgs; have HQS := hide hqs; have HW := hide hw; have HT := hide ht; have HQP := hide hqp; have HQU := hide hqu; have HRL := hide hrl; have HN := hide hn; have HB0 := hide hb0; have HR0 := hide R0; have HNP := hide hnP; have HL := hide hl
    clear hv he hc hrl hP hg0 hs hgs hqs hw ht hqp hqu hn hb0 R0 hnP hl
    go_enter Tryz.func50, Tryz.ntmps50
    go_wp2_with fail
    rw [← hw0, ← hrb]
    have HRB := hide hrb
    clear hw0 hrb
    refine HC.out.mono ?_
    rintro e w1 ⟨rfl, hb1⟩
    have hB1 := bl_step HB0.out hb1
    have hrbe := HRB.out
    have R1 := HR0.out.step hb1
    have hK1 : KeepP P w w1 := KeepP.of_below hB1 HP.out
    have hP1 : ∀ j, Also P rb j → j < w1.heap.size := fun j hj => by
      rcases hj with hj | hj
      · exact Nat.lt_of_lt_of_le (HP.out j hj) hK1.size
      · subst hj; exact R1.lt
    have ht1 : Tp w1 (Also P rb) t es := (HT.out.add (R := Also P rb) fun j hj => by
      rcases hj with hj | hj
      · exact .inl hj
      · exact .inr (by omega)).step hB1
    have HCO := hide (collect_any (Also P rb) t es gs GA gc qs QA qc HQP.out HQU.out HN.out.2 w1 hP1 (.inl HG.out) ((HS.out.kept hK1).mono fun j h => .inl h) (fun g hg => ⟨(HGS.out g hg).1, ((HGS.out g hg).2.1.kept hK1).mono fun j h => .inl h, (HGS.out g hg).2.2⟩) ((HQS.out.kept hK1).mono fun j h => .inl h) (HW.out.kept hK1 HG.out) ht1 (by rcases HL.out with h | h; exact .inl h; exact .inr (by omega)))
    have HK1 := hide hK1; have HR1 := hide R1; have HP1 := hide hP1
    clear hb1 hB1 hK1 hP1 ht1 R1 HC hrbe
    go_wp2_with fail
    refine HCO.out.mono ?_
    rintro e w2 ⟨b, rfl, hk2, ht2, hbl, hB2⟩
    have R2 := HR1.out.kept hk2 (.inr rfl)
    have hP2 : ∀ j, Also (Also P rb) b j → j < w2.heap.size := fun j hj => by
      rcases hj with hj | hj
      · exact Nat.lt_of_lt_of_le (HP1.out j hj) hk2.size
      · subst hj; exact hbl
    have hs2 : SlP w2 (Also (Also P rb) b) (some ⟨b, 0, none⟩) (recCs (hrecs gs qs)) := .inr ⟨b, 0, rfl, .inr rfl, fun j u hu => by
      rw [Nat.zero_add]
      exact hB2.cell (by unfold rcA; rw [List.getElem?_toArray]; exact hu)⟩
    have HCT := hide (count_any (Also (Also P rb) b) t (es ++ fenceVEv gs ++ itemEv gs qs.length) (hrecs gs qs) HCLN.out (by rw [HRL.out]; exact HN.out.2) (some ⟨b, 0, none⟩) qs.length w2 hP2 hs2 ht2 (by
      rcases HL.out with h | h
      · exact .inl h
      · have h1 := itemEv_length gs qs.length
        have h2 := fenceVEv_length gs
        exact .inr (by rw [List.length_append, List.length_append]; omega)))
    rw [HRL.out] at HCT
    obtain ⟨V, hV⟩ : ∃ V, V = fenceOk gs := ⟨_, rfl⟩
    have HBI := hide (fun wk => bit_any V wk)
    have HVV := hide hV
    rw [← hV]
    obtain ⟨vt, hvt⟩ : ∃ vt : Int, vt = (bif V then 1 else 0) := ⟨_, rfl⟩
    have hvb : 0 ≤ vt ∧ vt ≤ 1 := by rw [hvt]; cases V <;> decide
    rw [← hvt] at HBI
    have HVT := hide hvt
    obtain ⟨C, hC⟩ : ∃ C, C = cntL (hrecs gs qs) := ⟨_, rfl⟩
    have hcl := cntL_le _ HCLN.out
    rw [HRL.out, ← hC] at hcl
    rw [← hC] at HCT
    have HCC := hide hC
    have hn4 := HN.out.2
    have hw1 : IntKind.i64.wrap vt = vt := by rw [IntKind.wrap_i64]; omega
    have hw2 : IntKind.i64.wrap (C : Int) = (C : Int) := by rw [IntKind.wrap_i64]; omega
    have HR2 := hide R2; have HK2 := hide hk2; have HP2 := hide hP2; have HS2 := hide hs2; have HB2 := hide hB2
    clear hV hvt hC hk2 ht2 hbl hB2 R2 hP2 hs2 HCO
    go_wp2_with fail
    refine (HBI.out _).mono ?_
    rintro e w2' ⟨rfl, rfl⟩
    go_wp2_with fail
    refine HCT.out.mono ?_
    rintro e w3 ⟨rfl, hk3, ht3⟩
    obtain ⟨ab, hab⟩ : ∃ ab, ab = w3.heap.size := ⟨_, rfl⟩
    obtain ⟨w4, hw4⟩ : ∃ w4, w4 = w3.alloc (.cells #[.int .i64 vt, .int .i64 (C : Int), .slice none 0 0] 33) := ⟨_, rfl⟩
    have hb4 : Below w3.heap.size w3 w4 := by rw [hw4]; exact bl_alloc (Below.refl _ _) _
    have A4 : Blk w4 ab 33 #[.int .i64 vt, .int .i64 (C : Int), .slice none 0 0] := by rw [hw4, hab]; exact Blk.new _ _ _
    have hP3 : ∀ j, Also (Also P rb) b j → j < w3.heap.size := fun j hj => Nat.lt_of_lt_of_le (HP2.out j hj) hk3.size
    have hP4 : ∀ j, Also (Also (Also P rb) b) ab j → j < w4.heap.size := fun j hj => by
      rcases hj with hj | hj
      · exact Nat.lt_of_lt_of_le (hP3 j hj) hb4.size
      · subst hj; exact A4.lt
    have hk24 : KeepP (Also (Also P rb) b) w2 w4 := hk3.trans (KeepP.of_below hb4 hP3)
    have R4 := HR2.out.kept hk24 (.inl (.inr rfl))
    have ht4 : Tp w4 (Also (Also (Also P rb) b) ab) t (es ++ fenceVEv gs ++ itemEv gs qs.length ++ cntEv qs.length) := (ht3.add (R := Also (Also (Also P rb) b) ab) fun j hj => by
      rcases hj with hj | hj
      · exact .inl hj
      · exact .inr (by omega)).step hb4
    have HSO := hide (sort_any (Also (Also (Also P rb) b) ab) t (es ++ fenceVEv gs ++ itemEv gs qs.length ++ cntEv qs.length) (hrecs gs qs) HCLN.out (by rw [HRL.out]; exact HN.out.1) (by rw [HRL.out]; exact HN.out.2) (some ⟨b, 0, none⟩) qs.length w4 hP4 ((HS2.out.kept hk24).mono fun j h => .inl h) ht4 (by
      rcases HL.out with h | h
      · exact .inl h
      · have h1 := itemEv_length gs qs.length
        have h2 := fenceVEv_length gs
        have h3 := cntEv_length qs.length
        exact .inr (by rw [HRL.out, List.length_append, List.length_append, List.length_append]; omega)))
    rw [HRL.out] at HSO
    have hrab : rb < ab := by have := HR2.out.lt; have := hk3.size; omega
    have HA4 := hide A4; have HR4 := hide R4; have HK24 := hide hk24; have HP4 := hide hP4; have HAB := hide hab; have HRAB := hide hrab
    clear hk3 ht3 hb4 A4 hP3 hP4 hk24 R4 ht4 HCT hrab
    go_wp2_with fail
    rw [← hw4, ← hab]
    clear hw4 hab
    refine HSO.out.mono ?_
    rintro e w5 ⟨sb, rfl, hk5, ht5, hnsb, hsl5⟩
    have A5 := HA4.out.kept hk5 (.inr rfl)
    have R5 := HR4.out.kept hk5 (.inl (.inl (.inr rfl)))
    have z0 := A5.cell (i := 0) rfl
    have z1 := A5.cell (i := 1) rfl
    have z2 := A5.cell (i := 2) rfl
    have f2 := A5.frozen 2
    have y0 := R5.cell (i := 0) rfl
    have y1 := R5.cell (i := 1) rfl
    have y2 := R5.cell (i := 2) rfl
    have g0 := R5.frozen 0
    have g1 := R5.frozen 1
    have g2 := R5.frozen 2
    have hne1 : ¬ rb = ab := by have := HRAB.out; omega
    have hne2 : ¬ ab = rb := by omega
    have hns1 : sb ≠ ab := fun h => hnsb (.inr h)
    have hns2 : sb ≠ rb := fun h => hnsb (.inl (.inl (.inr h)))
    have HNS := hide (And.intro hns1 hns2)
    have HRR := hide (((R5.far (p := ⟨ab, 2, none⟩) (by dsimp only; omega) (.slice (some ⟨sb, 0, none⟩) qs.length qs.length)).set 0 (.int .i64 vt)).set 1 (.int .i64 (C : Int)))
    have hKK : KeepP P w w5 := (HK1.out.trans (HK2.out.mono fun j h => .inl h)).trans ((HK24.out.mono fun j h => .inl (.inl h)).trans (hk5.mono fun j h => .inl (.inl (.inl h))))
    have HKK := hide hKK; have HT5 := hide (ht5.mono (R := P) fun j h => .inl (.inl (.inl h))); have HSL := hide hsl5
    have HTM : Hid (Tp w5 (Also (Also P rb) ab) t (es ++ fenceVEv gs ++ itemEv gs qs.length ++ cntEv qs.length ++ pairEv (netw (lg qs.length)))) := ht5.mono fun j h => by
      rcases h with (h | h) | h
      · exact .inl (.inl (.inl h))
      · exact .inl (.inl (.inr h))
      · exact .inr h
    clear hk5 ht5 hnsb hsl5 A5 R5 hKK hns1 hns2
    go_wp2
    refine bodyPost_ret (results_c3 rfl rfl (HRR.out.set 2 (.slice (some ⟨sb, 0, none⟩) qs.length qs.length))) rfl ?_
    have hil : (isort rkey (hrecs gs qs)).length = qs.length := by rw [isort_length, HRL.out]
    have hab' : ¬ P ab := fun h => by have := HP.out _ h; have := HRAB.out; have := HRB.out; omega
    refine ⟨some ⟨sb, 0, none⟩, qs.length, ?_, ?_, ?_, ?_⟩
    · rw [hil, ← HVV.out, ← HVT.out, ← HCC.out]; rfl
    · exact HKK.out.trans ((KeepP.setCell hab' _ _ _).trans ((KeepP.setCell HNP.out _ _ _).trans ((KeepP.setCell HNP.out _ _ _).trans (KeepP.setCell HNP.out _ _ _))))
    · have h := (((HTM.out.set (.inr rfl) 2 (.slice (some ⟨sb, 0, none⟩) qs.length qs.length)).set (.inl (.inr rfl)) 0 (.int .i64 vt)).set (.inl (.inr rfl)) 1 (.int .i64 (C : Int))).set (.inl (.inr rfl)) 2 (.slice (some ⟨sb, 0, none⟩) qs.length qs.length)
      have h2 := h.mono (R := P) fun j h => .inl (.inl h)
      simp only [List.append_assoc] at h2 ⊢
      exact h2
    · exact (((HSL.out.set_far HNS.out.1 _).set_far HNS.out.2 _).set_far HNS.out.2 _).set_far HNS.out.2 _
  · have hv : hbatch gs qs = (ansZero, bcheck gs qs.length) := by unfold hbatch; rw [if_pos hc]
    have he : batchEv gs qs.length = [] := by unfold batchEv; rw [if_pos hc]
    rw [hv, he, List.append_nil]
    obtain ⟨F, hF⟩ : ∃ F, F = bcheck gs qs.length := ⟨_, rfl⟩
    rw [← hF] at hc HC ⊢
    have HP := hide hP; have HT := hide ht; have HB0 := hide hb0; have HR0 := hide R0; have HNP := hide hnP
    clear hv he hF hP hg0 hs hgs hqs hw ht hqp hqu hb0 R0 hnP hl
    go_enter Tryz.func50, Tryz.ntmps50
    go_wp2_with fail
    rw [← hw0, ← hrb]
    have HRB := hide hrb
    clear hw0 hrb
    refine HC.out.mono ?_
    rintro e w1 ⟨rfl, hb1⟩
    have R1 := HR0.out.step hb1
    have y0 := R1.cell (i := 0) rfl
    have y1 := R1.cell (i := 1) rfl
    have y2 := R1.cell (i := 2) rfl
    have g0 := R1.frozen 0
    have g1 := R1.frozen 1
    have g2 := R1.frozen 2
    have HB1 := hide (bl_step HB0.out hb1)
    have HRR := hide (((R1.set 0 (.int .i64 0)).set 1 (.int .i64 0)).set 2 (.slice none 0 0))
    clear R1 hb1 HC
    go_wp2
    refine bodyPost_ret (results_c3 rfl rfl HRR.out) rfl ?_
    have hrl : w.heap.size ≤ rb := by rw [HRB.out]; exact Nat.le_refl _
    have hbf := ((HB1.out.setCell (p := ⟨rb, 0, none⟩) hrl (.int .i64 0)).setCell (p := ⟨rb, 1, none⟩) hrl (.int .i64 0)).setCell (p := ⟨rb, 2, none⟩) hrl (.slice none 0 0)
    exact ⟨none, 0, rfl, KeepP.of_below hbf HP.out, HT.out.step hbf, Sl.nil _ _ _⟩
end Go.Proofs.YtpnoofphfomjoaaGreatDoor
