/- Handle -/
import Derived.Test.YtpnoofphfomjoaaGreatDoorPkE39
import Derived.Test.YtpnoofphfomjoaaGreatDoorPkE41
namespace Go.Proofs.YtpnoofphfomjoaaGreatDoor
open Go.RowKit Go.Shelf
/-- the values of a request lie in blocks of P -/
structure ReqP (w : World) (P : Nat → Prop) (hrs : List Rg) (HA : Option Addr) (gs : List Gr) (GA : Option Addr) (ps : List Pt) (PA : Option Addr) (pc : Nat) (qs : List ((Int × Int) × Int)) (QA : Option Addr) : Prop where
  hh : SlP w P HA (rgCells hrs)
  hn : hrs.length ≤ maxLen
  hg : SlP w P GA (rgCells (gs.map (·.1)))
  gk : GsP w P gs
  hp : SlP w P PA (ptCs ps)
  pj : PsJ ps
  cap : ps.length ≤ pc
  hq : SlP w P QA (quCs qs)
  qj : ∀ q ∈ qs, PJ q.1
  qu : ∀ q ∈ qs, U64 q.2
theorem ReqP.kept {w w' : World} {P R : Nat → Prop} {hrs : List Rg} {HA : Option Addr} {gs : List Gr} {GA : Option Addr} {ps : List Pt} {PA : Option Addr} {pc : Nat} {qs : List ((Int × Int) × Int)} {QA : Option Addr} (h : ReqP w P hrs HA gs GA ps PA pc qs QA) (hk : KeepP P w w') (hR : ∀ k, P k → R k) : ReqP w' R hrs HA gs GA ps PA pc qs QA :=
  ⟨(h.hh.kept hk).mono hR, h.hn, (h.hg.kept hk).mono hR, fun g hg => ⟨(h.gk g hg).1, ((h.gk g hg).2.1.kept hk).mono hR, (h.gk g hg).2.2⟩, (h.hp.kept hk).mono hR, h.pj, h.cap, (h.hq.kept hk).mono hR, h.qj, h.qu⟩
theorem ReqP.gsOk {w : World} {P : Nat → Prop} {hrs : List Rg} {HA : Option Addr} {gs : List Gr} {GA : Option Addr} {ps : List Pt} {PA : Option Addr} {pc : Nat} {qs : List ((Int × Int) × Int)} {QA : Option Addr} (h : ReqP w P hrs HA gs GA ps PA pc qs QA) {B : Nat} (hP : ∀ k, P k → k < B) : GsOk w B gs :=
  fun g hg => ⟨(h.gk g hg).1, (h.gk g hg).2.1.sl hP⟩
/-- what Handle returns, and its events -/
def hhandle (op vs : Int) (hrs : List Rg) (pts : Int) (gs : List Gr) (ps : List Pt) (qs : List ((Int × Int) × Int)) : Ans × Int :=
  if (hencode op vs hrs pts gs ps qs).2 ≠ 0 then (ansZero, (hencode op vs hrs pts gs ps qs).2) else if op = 5 then hbatch gs qs else (⟨ansOp op gs ps, 0, []⟩, 0)
def handleEv (op vs : Int) (hrs : List Rg) (pts : Int) (gs : List Gr) (ps : List Pt) (qs : List ((Int × Int) × Int)) : List Ev :=
  if (hencode op vs hrs pts gs ps qs).2 ≠ 0 then [] else if op = 5 then batchEv gs qs.length else opEv op gs ps
theorem answer_w (P : Nat → Prop) (t : Option (Nat × Nat)) (es : List Ev) (op vs pts : Int) (hrs : List Rg) (HA : Option Addr) (hc : Nat) (gs : List Gr) (GA : Option Addr) (gc : Nat) (ps : List Pt) (PA : Option Addr) (pc : Nat) (qs : List ((Int × Int) × Int)) (QA : Option Addr) (qc : Nat) (w : World) (hP : ∀ k, P k → k < w.heap.size) (hg0 : P 1) (hw : MW w) (ht : Tp w P t es) (hl : t = none ∨ es.length ≤ 600000)
    (h : ReqP w P hrs HA gs GA ps PA pc qs QA) :
    Calls Tryz.prog 51 #[.pointer (tapeA t), .agg #[.int .i64 op, .int .i64 vs, .slice HA hrs.length hc, .int .i64 pts, .slice GA gs.length gc, .slice PA ps.length pc, .slice QA qs.length qc]] w fun e w' => e = .returned (.tuple #[.agg #[.int .i64 (ansV op vs hrs pts gs ps qs).1, .int .i64 0, .slice none 0 0], .int .i64 (ansV op vs hrs pts gs ps qs).2]) ∧ KeepP P w w' ∧ Tp w' P t (es ++ ansEv op vs hrs pts gs ps qs) := by
  rcases hl with rfl | hl
  · refine (answer_any P none [] op vs pts hrs HA hc gs GA gc ps PA pc qs QA qc w hP hg0 hw trivial (by simp) h.pj h.hp h.cap h.hg h.gk h.hh h.hn (h.hq.sl hP)).mono ?_
    rintro e w' ⟨h1, h2, _⟩
    exact ⟨h1, h2, trivial⟩
  · exact answer_any P t es op vs pts hrs HA hc gs GA gc ps PA pc qs QA qc w hP hg0 hw ht hl h.pj h.hp h.cap h.hg h.gk h.hh h.hn (h.hq.sl hP)
theorem Sl.set_farP {w : World} {A : Option Addr} {xs : List Value} {b o : Nat} (h : Sl w w.heap.size A xs) (hne : xs ≠ [] → ∀ x, A = some x → x.block ≠ b) (u : Value) : Sl (w.setCell ⟨b, o, none⟩ u) (w.setCell ⟨b, o, none⟩ u).heap.size A xs :=
  (h.far (p := ⟨b, o, none⟩) hne u).more (by simp)
theorem ansOut_end {P Q : Nat → Prop} {t : Option (Nat × Nat)} {es' es2 : List Ev} {r : Ans × Int} {w w2 : World} {g c : Nat} {A : Option Addr} {val cnt er : Int} {recs : List (Int × Int)} {u0 u1 u2 : Value} (hr : r = (⟨val, cnt, recs⟩, er)) (he : es' = es2) (hk : KeepP P w w2) (hnp : ¬ P g) (ht : Tp w2 Q t es2) (hg : Q g) (hsub : ∀ k, P k → Q k)
    (hs : Sl w2 w2.heap.size A (recCs recs)) (hne : recs ≠ [] → ∀ x, A = some x → x.block ≠ g) :
    AnsOut P t es' r w (.returned (.tuple #[.agg #[.int .i64 val, .int .i64 cnt, .slice A recs.length c], .int .i64 er])) (((w2.setCell ⟨g, 0, none⟩ u0).setCell ⟨g, 1, none⟩ u1).setCell ⟨g, 2, none⟩ u2) := by
  subst hr
  subst he
  have hne' : recCs recs ≠ [] → ∀ x, A = some x → x.block ≠ g := fun h => hne fun e => h (by rw [e]; rfl)
  exact ⟨A, c, rfl, hk.trans ((KeepP.setCell hnp _ _ _).trans ((KeepP.setCell hnp _ _ _).trans (KeepP.setCell hnp _ _ _))), (((ht.set hg _ _).set hg _ _).set hg _ _).mono hsub, ((hs.set_farP hne' _).set_farP hne' _).set_farP hne' _⟩
set_option maxRecDepth 100000 in
set_option maxHeartbeats 4000000 in
theorem handle_any (P : Nat → Prop) (t : Option (Nat × Nat)) (es : List Ev) (op vs pts : Int) (hrs : List Rg) (HA : Option Addr) (hc : Nat) (gs : List Gr) (GA : Option Addr) (gc : Nat) (ps : List Pt) (PA : Option Addr) (pc : Nat) (qs : List ((Int × Int) × Int)) (QA : Option Addr) (qc : Nat) (w : World) (hP : ∀ k, P k → k < w.heap.size) (hg0 : P 1) (hw : MW w) (ht : Tp w P t es) (hl : t = none ∨ es.length + 4161 * qs.length + (netw (lg qs.length)).length ≤ 600000)
    (hr : ReqP w P hrs HA gs GA ps PA pc qs QA) :
    Calls Tryz.prog 14 #[.pointer (tapeA t), .agg #[.int .i64 op, .int .i64 vs, .slice HA hrs.length hc, .int .i64 pts, .slice GA gs.length gc, .slice PA ps.length pc, .slice QA qs.length qc]] w (AnsOut P t (es ++ handleEv op vs hrs pts gs ps qs) (hhandle op vs hrs pts gs ps qs) w) := by
  obtain ⟨rb, hrb⟩ : ∃ rb, rb = w.heap.size := ⟨_, rfl⟩
  obtain ⟨w0, hw0⟩ : ∃ w0, w0 = (w.alloc (.cells #[.int .i64 op, .int .i64 vs, .slice HA hrs.length hc, .int .i64 pts, .slice GA gs.length gc, .slice PA ps.length pc, .slice QA qs.length qc] 37)).alloc (.cells #[.int .i64 0, .int .i64 0, .slice none 0 0] 33) := ⟨_, rfl⟩
  have hb0 : Below w.heap.size w w0 := by rw [hw0]; exact bl_alloc (bl_alloc (Below.refl _ _) _) _
  have B0 : Blk w0 rb 37 #[.int .i64 op, .int .i64 vs, .slice HA hrs.length hc, .int .i64 pts, .slice GA gs.length gc, .slice PA ps.length pc, .slice QA qs.length qc] := by rw [hw0, hrb]; exact (Blk.new _ _ _).alloc _
  have C0 : Blk w0 (rb + 1) 33 #[.int .i64 0, .int .i64 0, .slice none 0 0] := by rw [hw0, hrb]; exact Blk.new2 _ _ _ _
  have hk0 : KeepP P w w0 := KeepP.of_below hb0 hP
  have hP0 : ∀ k, P k → k < w0.heap.size := fun k hk => Nat.lt_of_lt_of_le (hP k hk) hb0.size
  have hr0 := hr.kept hk0 (R := P) fun k h => h
  have HEN0 := encode_any op vs pts hrs HA hc gs GA gc ps PA pc qs QA qc w0 (hr0.hh.sl hP0) (hr0.hg.sl hP0) (hr0.gsOk hP0) (hr0.hp.sl hP0) (hr0.hq.sl hP0) hr.hn
  have HAN : Hid (hhandle op vs hrs pts gs ps qs = if (hencode op vs hrs pts gs ps qs).2 ≠ 0 then (ansZero, (hencode op vs hrs pts gs ps qs).2) else if op = 5 then hbatch gs qs else (⟨ansOp op gs ps, 0, []⟩, 0)) := rfl
  have HEV : Hid (handleEv op vs hrs pts gs ps qs = if (hencode op vs hrs pts gs ps qs).2 ≠ 0 then [] else if op = 5 then batchEv gs qs.length else opEv op gs ps) := rfl
  have HAV : Hid (ansV op vs hrs pts gs ps qs = if (hencode op vs hrs pts gs ps qs).2 ≠ 0 then (0, (hencode op vs hrs pts gs ps qs).2) else if op = 5 then (0, 2) else (ansOp op gs ps, 0)) := rfl
  have HAE : Hid (ansEv op vs hrs pts gs ps qs = if (hencode op vs hrs pts gs ps qs).2 ≠ 0 then [] else opEv op gs ps) := rfl
  obtain ⟨⟨bs, err⟩, hE⟩ : ∃ E, E = hencode op vs hrs pts gs ps qs := ⟨_, rfl⟩
  rw [← hE] at HEN0 HAN HEV HAV HAE
  have HEN := hide HEN0
  have HP := hide hP; have HG := hide hg0; have HT := hide ht; have HB0 := hide hb0; have HR := hide hr; have HW := hide hw; have HL := hide hl
  have HNP : Hid (¬ P (rb + 1)) := fun h => by have := hP _ h; omega
  have HM : Hid (∀ k, Also (Also P rb) (rb + 1) k → P k ∨ w.heap.size ≤ k) := fun k hk => by
    rcases hk with (hk | hk) | hk
    · exact .inl hk
    · exact .inr (by omega)
    · exact .inr (by omega)
  clear hE HEN0 hk0 hP hg0 hw ht hr hb0 hP0 hr0 hl
  dsimp only at *
  go_enter Tryz.func14, Tryz.ntmps14
  go_wp2_with fail
  rw [← hw0, ← hrb]
  have HW0 := hide hw0; have HRB := hide hrb
  clear hw0 hrb
  refine HEN.out.mono ?_
  rintro e w1 ⟨v, rfl, hv1, hb1⟩
  have B1 := B0.step hb1
  have C1 := C0.step hb1
  have hB1 := bl_step HB0.out hb1
  obtain ⟨VA, vcap, rfl, _⟩ := own_slice hv1
  have hK1 : KeepP P w w1 := KeepP.of_below hB1 HP.out
  have hP1 : ∀ j, Also (Also P rb) (rb + 1) j → j < w1.heap.size := fun j hj => by
    rcases hj with (hj | hj) | hj
    · exact Nat.lt_of_lt_of_le (HP.out j hj) hK1.size
    · subst hj; exact B1.lt
    · subst hj; exact C1.lt
  have ht1 : Tp w1 (Also (Also P rb) (rb + 1)) t es := (HT.out.add HM.out).step hB1
  have hsub : ∀ k, P k → Also (Also P rb) (rb + 1) k := fun k h => .inl (.inl h)
  have hr1 := HR.out.kept hK1 hsub
  have hw1 := HW.out.kept hK1 HG.out
  have c0 := B1.cell (i := 0) rfl
  have c1 := B1.cell (i := 1) rfl
  have c2 := B1.cell (i := 2) rfl
  have c3 := B1.cell (i := 3) rfl
  have c4 := B1.cell (i := 4) rfl
  have c5 := B1.cell (i := 5) rfl
  have c6 := B1.cell (i := 6) rfl
  have HK1 := hide hK1; have HC1 := hide C1; have HP1 := hide hP1; have HSUB := hide hsub; have HB1 := hide hB1
  by_cases he : err = 0
  · subst he
    by_cases h5 : op = 5
    · subst h5
      have HA2 : Hid (hhandle 5 vs hrs pts gs ps qs = hbatch gs qs) := hide (HAN.out.trans ((if_neg (by simp)).trans (if_pos rfl)))
      have HE2 : Hid (handleEv 5 vs hrs pts gs ps qs = batchEv gs qs.length) := hide (HEV.out.trans ((if_neg (by simp)).trans (if_pos rfl)))
      have HRUN := hide (run_any (Also (Also P rb) (rb + 1)) t es gs GA gc qs QA qc hr1.qj hr1.qu w1 hP1 (HSUB.out _ HG.out) hr1.hg hr1.gk hr1.hq hw1 ht1 HL.out)
      clear hK1 C1 hP1 ht1 hr1 hw1 hB1 hb1 hv1 HAN HEV HAV HAE B1 hsub
      go_wp2_with fail
      refine HRUN.out.mono ?_
      rintro e w2 ⟨A, c, rfl, hk2, ht2, hs2⟩
      have C2 := HC1.out.kept hk2 (.inr rfl)
      have y0 := C2.cell (i := 0) rfl
      have y1 := C2.cell (i := 1) rfl
      have y2 := C2.cell (i := 2) rfl
      have g0 := C2.frozen 0
      have g1 := C2.frozen 1
      have g2 := C2.frozen 2
      obtain ⟨⟨⟨val, cnt, recs⟩, er⟩, hR⟩ : ∃ R, R = hbatch gs qs := ⟨_, rfl⟩
      have hsA : Sl w2 w2.heap.size A (recCs recs) ∧ (recs ≠ [] → ∀ x, A = some x → x.block ≠ rb + 1) := by
        refine ⟨by rw [← hR] at hs2; exact hs2, fun hne x hx => ?_⟩
        subst hx
        rw [← hR] at hs2
        intro hxe
        rcases hs2 with h | ⟨b, off, hb, _, hcell⟩
        · obtain ⟨r, l, rfl⟩ := List.exists_cons_of_ne_nil hne
          simp [recCs] at h
        · cases hb
          dsimp only at hxe
          subst hxe
          obtain ⟨r, l, rfl⟩ := List.exists_cons_of_ne_nil hne
          have h0 := hcell 0 (.int .u64 r.1) rfl
          have hh : w2.heap[rb + 1]? = some (.cells #[.int .i64 0, .int .i64 0, .slice none 0 0] 33 (0, 0)) := C2
          rw [cell_of_row w2 (rb + 1) (off + 0) _ _ _ hh] at h0
          have : off + 0 < 3 := by
            have := (Array.getElem?_eq_some_iff.1 h0).1
            simpa using this
          have h3 : off + 0 = 0 ∨ off + 0 = 1 ∨ off + 0 = 2 := by omega
          rcases h3 with h3 | h3 | h3 <;> rw [h3] at h0 <;> simp at h0
      rw [← hR]
      dsimp only
      have HSA := hide hsA
      have HRR := hide (((C2.set 0 (.int .i64 val)).set 1 (.int .i64 cnt)).set 2 (.slice A recs.length c))
      have HK2 := hide (HK1.out.trans (hk2.mono HSUB.out))
      have HT2 : Hid (Tp w2 (Also (Also P rb) (rb + 1)) t (es ++ batchEv gs qs.length)) := ht2
      have HRE := hide hR
      clear hk2 ht2 hs2 C2 hsA hR c0 c1 c2 c3 c4 c5 c6
      go_wp2
      refine bodyPost_ret (results_c3 rfl rfl HRR.out) rfl ?_
      exact ansOut_end (by rw [HA2.out, HRE.out]) (by rw [HE2.out]) HK2.out HNP.out HT2.out (.inr rfl) HSUB.out HSA.out.1 HSA.out.2
    · have h5n : ¬ (op : Int) = 5 := h5
      have HA2 : Hid (hhandle op vs hrs pts gs ps qs = (⟨ansOp op gs ps, 0, []⟩, 0)) := hide (HAN.out.trans ((if_neg (by simp)).trans (if_neg h5)))
      have HE2 : Hid (handleEv op vs hrs pts gs ps qs = opEv op gs ps) := hide (HEV.out.trans ((if_neg (by simp)).trans (if_neg h5)))
      have HAV2 : ansV op vs hrs pts gs ps qs = (ansOp op gs ps, 0) := HAV.out.trans ((if_neg (by simp)).trans (if_neg h5))
      have HAE2 : ansEv op vs hrs pts gs ps qs = opEv op gs ps := HAE.out.trans (if_neg (by simp))
      have HR0 := answer_w (Also (Also P rb) (rb + 1)) t es op vs pts hrs HA hc gs GA gc ps PA pc qs QA qc w1 hP1 (HSUB.out _ HG.out) hw1 ht1 (by rcases HL.out with h | h; exact .inl h; exact .inr (by omega)) hr1
      rw [HAV2, HAE2] at HR0
      have HRUN := hide HR0
      obtain ⟨val, hval⟩ : ∃ val, val = ansOp op gs ps := ⟨_, rfl⟩
      rw [← hval] at HRUN HA2
      clear hval HAV2 HAE2 HR0 hK1 C1 hP1 ht1 hr1 hw1 hB1 hb1 hv1 HAN HEV HAV HAE B1 hsub
      go_wp2_with fail
      refine HRUN.out.mono ?_
      rintro e w2 ⟨rfl, hk2, ht2⟩
      have C2 := HC1.out.kept hk2 (.inr rfl)
      have y0 := C2.cell (i := 0) rfl
      have y1 := C2.cell (i := 1) rfl
      have y2 := C2.cell (i := 2) rfl
      have g0 := C2.frozen 0
      have g1 := C2.frozen 1
      have g2 := C2.frozen 2
      have HRR := hide (((C2.set 0 (.int .i64 val)).set 1 (.int .i64 0)).set 2 (.slice none 0 0))
      have HK2 := hide (HK1.out.trans (hk2.mono HSUB.out))
      have HT2 := hide ht2
      clear hk2 ht2 C2 c0 c1 c2 c3 c4 c5 c6
      go_wp2
      refine bodyPost_ret (results_c3 rfl rfl HRR.out) rfl ?_
      exact ansOut_end HA2.out (by rw [HE2.out]) HK2.out HNP.out HT2.out (.inr rfl) HSUB.out (Sl.nil _ _ _) (fun h => absurd rfl h)
  · have hen : ¬ (err : Int) = 0 := he
    have HA2 : Hid (hhandle op vs hrs pts gs ps qs = (ansZero, err)) := hide (HAN.out.trans (if_pos he))
    have HE2 : Hid (handleEv op vs hrs pts gs ps qs = []) := hide (HEV.out.trans (if_pos he))
    have C2 := HC1.out
    have y0 := C2.cell (i := 0) rfl
    have y1 := C2.cell (i := 1) rfl
    have y2 := C2.cell (i := 2) rfl
    have g0 := C2.frozen 0
    have g1 := C2.frozen 1
    have g2 := C2.frozen 2
    have HRR := hide (((C2.set 0 (.int .i64 0)).set 1 (.int .i64 0)).set 2 (.slice none 0 0))
    have HT2 := hide ht1
    clear hK1 C1 hP1 ht1 hr1 hw1 hB1 hb1 hv1 HAN HEV HAV HAE B1 hsub C2 c0 c1 c2 c3 c4 c5 c6
    go_wp2
    refine bodyPost_ret (results_c3 rfl rfl HRR.out) rfl ?_
    exact ansOut_end HA2.out (by rw [HE2.out, List.append_nil]) HK1.out HNP.out HT2.out (.inr rfl) HSUB.out (Sl.nil _ _ _) (fun h => absurd rfl h)
end Go.Proofs.YtpnoofphfomjoaaGreatDoor
