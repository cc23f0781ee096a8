/- Alive21 Req21 LawRound21 -/
import Derived.Test.YtpnoofphfomjoaaGreatDoorPkE15
import Derived.Test.YtpnoofphfomjoaaGreatDoorPkE45
import Derived.Test.YtpnoofphfomjoaaGreatDoorPkE46
import Derived.Test.YtpnoofphfomjoaaGreatDoorPkE47
namespace Go.Proofs.YtpnoofphfomjoaaGreatDoor
open Go.RowKit Go.Shelf
theorem slb {w : World} {g : Nat} {t : TypeId} {xs : List Value} (h : Blk w g t xs.toArray) : Sl w w.heap.size (some ⟨g, 0, none⟩) xs :=
  Sl.mk h.lt fun j u hu => by rw [Nat.zero_add]; exact h.cell (by simpa using hu)
theorem by_dec {bs : List Int} (h : (bs.all fun x => decide (0 ≤ x) && decide (x ≤ 255)) = true) : By bs := by
  intro x hx
  have := List.all_eq_true.1 h x hx
  simpa using this
def ex49 : List Int := [1] ++ List.replicate 16 0 ++ [1] ++ List.replicate 23 0 ++ [1] ++ List.replicate 7 0
theorem sv_nil : hserve [] = [4] := by decide +kernel
theorem sv_49 : hserve ex49 = [0, 2] := by decide +kernel
theorem sv_50 : hserve (ex49 ++ [0]) = [8] := by decide +kernel
theorem by_49 : By ex49 := by_dec (by decide)
theorem by_50 : By (ex49 ++ [0]) := by_dec (by decide)
/-- a call gives these bytes -/
def Gives (bs : List Int) (n : Nat) (w : World) (e : Ending) (w' : World) : Prop := ∃ A c, e = .returned (.slice A n c) ∧ Below w.heap.size w w' ∧ Sl w' w'.heap.size A (byCells bs)
/-- append of one byte onto a full row of bytes -/
theorem app_byte (bs : List Int) (n gb hb : Nat) (x : Int) (w : World) (B : Blk w gb 5 (byCells bs).toArray) (N : Blk w hb 5 (byCells [x]).toArray) (hn : bs.length = n) (hm : n ≤ 100000) :
    ∃ A c w', (Builtin.append_ #[44, 44] 44 #[.slice (some ⟨gb, 0, none⟩) n n, .slice (some ⟨hb, 0, none⟩) 1 1]).run Tryz.prog w = .ok (.slice A (n + 1) c) w' ∧ (bs ++ [x]).length ≤ c ∧ Below w.heap.size w w' ∧ Sl w' w'.heap.size A (byCells (bs ++ [x])) := by
  obtain ⟨i0, hi, hz0, hz1, hz2⟩ := info_parts u8_info
  have hr := run_append_grow (P := Tryz.prog) (w := w) 44 44 5 i0 (.int .u8 0) Tryz.underlying44 hi hz0 ⟨gb, 0, none⟩ n n (byCells bs) (by rw [hz1, ← hn]; simp [byCells]) (fun j u hu => by rw [add_zero_off]; exact B.cell (by simpa using hu)) ⟨hb, 0, none⟩ 1 1 (byCells [x]) (by rw [hz1]; rfl) (fun j u hu => by rw [add_zero_off]; exact N.cell (by simpa using hu)) (by omega) (by omega) (growslice_fits (by omega) (by rw [hz2]; omega))
  refine ⟨_, _, _, hr, ?_, ?_, ?_⟩
  · rw [List.length_append, hn]
    exact grownCap_ge w (n + 1) n 5
  · exact ⟨rfl, rfl, rfl, by simp, fun j hj => heap_alloc_old w.drew _ hj⟩
  · refine Sl.mk (by simp) fun j u hu => ?_
    have hl : j < (byCells (bs ++ [x])).length := (List.getElem?_eq_some_iff.1 hu).1
    rw [Nat.zero_add]
    refine (Blk.new w.drew 5 _).cell (i := j) ?_
    rw [byCells_append, List.length_append] at hl
    rw [Array.getElem?_append_left (by simp; omega), show (byCells bs).toArray ++ (byCells [x]).toArray = (byCells bs ++ byCells [x]).toArray from by simp, ← byCells_append, List.getElem?_toArray]
    exact hu
set_option maxRecDepth 100000 in
set_option maxHeartbeats 4000000 in
theorem alive21 (w : World) (hfix : Fixed w) (hg : 0 < w.heap.size) (hw : MW w) : Calls Tryz.prog 13 #[] w fun e w' => e = .returned (.bool true) ∧ Below w.heap.size w w' := by
  have SV : ∀ (w' : World) (bs : List Int) (A : Option Addr) (c : Nat), Below w.heap.size w w' → Sl w' w'.heap.size A (byCells bs) → bs.length ≤ c → By bs → bs.length ≤ 300000 → ∀ n out, hserve bs = out → out.length = n → Calls Tryz.prog 20 #[.slice A bs.length c] w' (Gives out n w') := by
    intro w' bs A c hb hs hcap hby hmax n out ho hn
    subst ho hn
    refine (serve_any bs A c w' hs hcap hby hmax (hfix.below hb hg) (Nat.lt_of_lt_of_le hg hb.size) (hw.step hb)).mono ?_
    rintro e w2 ⟨A', c', he, _, hb2, hs2⟩
    exact ⟨A', c', he, hb2, hs2⟩
  have TV : ∀ (w' : World) (bs : List Int) (A : Option Addr) (c : Nat), Below w.heap.size w w' → Sl w' w'.heap.size A (byCells bs) → bs.length ≤ c → By bs → bs.length ≤ 300000 → ∀ n out, hserve bs = out → out.length = n → Calls Tryz.prog 23 #[.pointer none, .slice A bs.length c] w' (Gives out n w') := by
    intro w' bs A c hb hs hcap hby hmax n out ho hn
    subst ho hn
    refine (traced_any none bs A c w' hs hcap hby hmax (hfix.below hb hg) (Nat.lt_of_lt_of_le hg hb.size) (hw.step hb) trivial (.inl rfl)).mono ?_
    rintro e w2 ⟨A', c', he, _, hk, _, hs2⟩
    exact ⟨A', c', he, ⟨hk.os, hk.tape, hk.output, hk.size, fun k hb => hk.block k ⟨hb, fun u hu => by cases hu⟩⟩, hs2⟩
  have HSV := hide SV; have HTV := hide TV
  clear SV TV hfix hg hw
  go_enter Tryz.func13, Tryz.ntmps13
  have hmk : ∀ wx : World, (Instr.makeSlice 44 (.int .i64 49) (.int .i64 49)).run Tryz.prog wx = .ok (.slice (some ⟨wx.heap.size, 0, none⟩) 49 49) (wx.alloc (.cells (byCells (List.replicate 49 0)).toArray 5)) := fun _ => by kernel_rfl
  go_wp2_with fail
  clear hmk
  obtain ⟨gb, hgb⟩ : ∃ gb, gb = w.heap.size := ⟨_, rfl⟩
  obtain ⟨w0, hw0⟩ : ∃ w0, w0 = w.alloc (.cells (byCells ex49).toArray 5) := ⟨_, rfl⟩
  have hb0 : Below w.heap.size w w0 := by rw [hw0]; exact bl_alloc (Below.refl _ _) _
  have B0 : Blk w0 gb 5 (byCells ex49).toArray := by rw [hw0, hgb]; exact Blk.new _ _ _
  have S1 := HSV.out w0 [] none 0 hb0 (Sl.nil _ _ _) (by decide) (fun x hx => by cases hx) (by decide) 1 [4] sv_nil rfl
  rw [hw0] at S1
  refine S1.mono ?_
  rw [← hw0]
  clear S1
  rintro e w1 ⟨A1, c1, rfl, hb1, hs1⟩
  have HB1 := bl_step hb0 hb1
  have B1 := B0.step hb1
  clear hw0 hb0 hb1 B0 hs1
  rw [← hgb]
  have HGB := hide hgb
  clear hgb
  go_wp2_with fail
  refine (HSV.out w1 [] none 0 HB1 (Sl.nil _ _ _) (by decide) (fun x hx => by cases hx) (by decide) 1 [4] sv_nil rfl).mono ?_
  rintro e w2 ⟨A2, c2, rfl, hb2, hs2⟩
  have HB2 := bl_step HB1 hb2
  have B2 := B1.step hb2
  clear B1 hb2
  have HS2 := hide hs2
  clear hs2
  go_wp2_with fail
  have hb3 := bl_alloc (Below.refl w2.heap.size w2) (.cells #[.int .u8 4] 5)
  refine (equal_true [4] A2 (some ⟨w2.heap.size, 0, none⟩) c2 1 _ ((HS2.out.below hb3).more hb3.size) (slb (Blk.new _ _ _))).mono ?_
  rintro e w3 ⟨rfl, rfl⟩
  have HB3 := bl_step HB2 hb3
  have B3 := B2.step hb3
  obtain ⟨w3, hw3⟩ : ∃ w3, w3 = w2.alloc (.cells #[.int .u8 4] 5) := ⟨_, rfl⟩
  rw [← hw3] at HB3 B3 ⊢
  clear hw3 hb3 B2 HS2
  go_wp2_with fail
  refine (HSV.out w3 ex49 (some ⟨gb, 0, none⟩) 49 HB3 (slb B3) (by decide) by_49 (by decide) 2 [0, 2] sv_49 rfl).mono ?_
  rintro e w4 ⟨A4, c4, rfl, hb4, hs4⟩
  have HB4 := bl_step HB3 hb4
  have B4 := B3.step hb4
  clear B3 hb4
  have HS4 := hide hs4
  clear hs4
  go_wp2_with fail
  have hb5 := bl_alloc (Below.refl w4.heap.size w4) (.cells #[.int .u8 0, .int .u8 2] 5)
  refine (equal_true [0, 2] A4 (some ⟨w4.heap.size, 0, none⟩) c4 2 _ ((HS4.out.below hb5).more hb5.size) (slb (Blk.new _ _ _))).mono ?_
  rintro e w5 ⟨rfl, rfl⟩
  have HB5 := bl_step HB4 hb5
  have B5 := B4.step hb5
  obtain ⟨w5, hw5⟩ : ∃ w5, w5 = w4.alloc (.cells #[.int .u8 0, .int .u8 2] 5) := ⟨_, rfl⟩
  rw [← hw5] at HB5 B5 ⊢
  clear hw5 hb5 B4 HS4
  have hb6 := bl_alloc (Below.refl w5.heap.size w5) (.cells #[.int .u8 0] 5)
  have B6 := B5.alloc (.cells #[.int .u8 0] 5)
  have N6 := Blk.new w5 5 (byCells [0]).toArray
  obtain ⟨A7, c7, w7, hrun, hc7, hb67, hs7⟩ := app_byte ex49 49 gb w5.heap.size 0 _ B6 N6 rfl (by decide)
  have hb7 : Below w.heap.size w w7 := bl_step (bl_step HB5 hb6) hb67
  have B7 := B6.step hb67
  go_wp2_with (at_builtin; refine wpList_append_run (.tmp 24) (.tmp 25) 44 rfl rfl _ _ rfl rfl hrun ?_)
  clear hrun B6 N6 hb6 hb67 B5
  go_wp2_with fail
  refine (HSV.out w7 (ex49 ++ [0]) A7 c7 hb7 hs7 hc7 by_50 (by decide) 1 [8] sv_50 rfl).mono ?_
  rintro e w8 ⟨A8, c8, rfl, hb8, hs8⟩
  have HB8 := bl_step hb7 hb8
  have B8 := B7.step hb8
  clear B7 hb8 hs7 hb7
  have HS8 := hide hs8
  clear hs8
  go_wp2_with fail
  have hb9 := bl_alloc (Below.refl w8.heap.size w8) (.cells #[.int .u8 8] 5)
  refine (equal_true [8] A8 (some ⟨w8.heap.size, 0, none⟩) c8 1 _ ((HS8.out.below hb9).more hb9.size) (slb (Blk.new _ _ _))).mono ?_
  rintro e w9 ⟨rfl, rfl⟩
  have HB9 := bl_step HB8 hb9
  have B9 := B8.step hb9
  obtain ⟨w9, hw9⟩ : ∃ w9, w9 = w8.alloc (.cells #[.int .u8 8] 5) := ⟨_, rfl⟩
  rw [← hw9] at HB9 B9 ⊢
  clear hw9 hb9 B8 HS8
  go_wp2_with fail
  refine (HTV.out w9 ex49 (some ⟨gb, 0, none⟩) 49 HB9 (slb B9) (by decide) by_49 (by decide) 2 [0, 2] sv_49 rfl).mono ?_
  rintro e w10 ⟨A10, c10, rfl, hb10, hs10⟩
  have HB10 := bl_step HB9 hb10
  clear B9 hb10
  have HS10 := hide hs10
  clear hs10
  go_wp2_with fail
  have hb11 := bl_alloc (Below.refl w10.heap.size w10) (.cells #[.int .u8 0, .int .u8 2] 5)
  refine (equal_true [0, 2] A10 (some ⟨w10.heap.size, 0, none⟩) c10 2 _ ((HS10.out.below hb11).more hb11.size) (slb (Blk.new _ _ _))).mono ?_
  rintro e w11 ⟨rfl, rfl⟩
  have HB11 := bl_step HB10 hb11
  go_wp2
  go_ret
  exact ⟨rfl, HB11⟩
end Go.Proofs.YtpnoofphfomjoaaGreatDoor
namespace Go.Proofs.YtpnoofphfomjoaaGreatDoor
open Go.RowKit Go.Shelf
structure ReqW (w : World) (hrs : List Rg) (HA : Option Addr) (gs : List Gr) (GA : Option Addr) (ps : List Pt) (PA : Option Addr) (pc : Nat) (qs : List ((Int × Int) × Int)) (QA : Option Addr) : Prop where
  hh : Sl w w.heap.size HA (rgCells hrs)
  hn : hrs.length ≤ maxLen
  hg : Sl w w.heap.size GA (rgCells (gs.map (·.1)))
  gn : gs.length ≤ maxLen
  gk : GsOk w w.heap.size gs
  gj : ∀ g ∈ gs, PsJ g.2
  hp : Sl w w.heap.size PA (ptCs ps)
  pj : PsJ ps
  cap : ps.length ≤ pc
  hq : Sl w w.heap.size QA (quCs qs)
  qj : ∀ q ∈ qs, PJ q.1
  qu : ∀ q ∈ qs, U64 q.2
section
variable {w : World} {hrs : List Rg} {HA : Option Addr} {gs : List Gr} {GA : Option Addr} {ps : List Pt} {PA : Option Addr} {pc : Nat} {qs : List ((Int × Int) × Int)} {QA : Option Addr}
theorem ReqW.below {w' : World} (h : ReqW w hrs HA gs GA ps PA pc qs QA) (hb : Below w.heap.size w w') : ReqW w' hrs HA gs GA ps PA pc qs QA :=
  ⟨(h.hh.below hb).more hb.size, h.hn, (h.hg.below hb).more hb.size, h.gn, fun g hg => ⟨(h.gk g hg).1, ((h.gk g hg).2.below hb).more hb.size⟩, h.gj, (h.hp.below hb).more hb.size, h.pj, h.cap, (h.hq.below hb).more hb.size, h.qj, h.qu⟩
theorem ReqW.len (h : ReqW w hrs HA gs GA ps PA pc qs QA) : ∀ g ∈ gs, g.1.n = g.2.length := fun g hg => (h.gk g hg).1
theorem ReqW.reqP (h : ReqW w hrs HA gs GA ps PA pc qs QA) (h250 : ∀ g ∈ gs, g.1.n ≤ 250) : ReqP w (fun k => k < w.heap.size) hrs HA gs GA ps PA pc qs QA :=
  ⟨h.hh.slP fun _ h => h, h.hn, h.hg.slP fun _ h => h, fun g hg => ⟨(h.gk g hg).1, (h.gk g hg).2.slP fun _ h => h, h.gj g hg, by have := h250 g hg; have := (h.gk g hg).1; omega⟩, h.hp.slP fun _ h => h, h.pj, h.cap, h.hq.slP fun _ h => h, h.qj, h.qu⟩
/-- what Handle gives with no tape -/
def Handled (a : Ans) (er : Int) (w : World) (e : Ending) (w' : World) : Prop := ∃ A c, e = .returned (.tuple #[.agg #[.int .i64 a.val, .int .i64 a.cnt, .slice A a.recs.length c], .int .i64 er]) ∧ Below w.heap.size w w' ∧ Sl w' w'.heap.size A (recCs a.recs)
theorem handle_nil (op vs pts : Int) (hc gc qc : Nat) (h : ReqW w hrs HA gs GA ps PA pc qs QA) (h250 : ∀ g ∈ gs, g.1.n ≤ 250) (hw : MW w) :
    Calls Tryz.prog 14 #[.pointer none, .agg #[.int .i64 op, .int .i64 vs, .slice HA hrs.length hc, .int .i64 pts, .slice GA gs.length gc, .slice PA ps.length pc, .slice QA qs.length qc]] w (Handled (hhandle op vs hrs pts gs ps qs).1 (hhandle op vs hrs pts gs ps qs).2 w) := by
  refine (handle_any (fun k => k < w.heap.size) none [] op vs pts hrs HA hc gs GA gc ps PA pc qs QA qc w (fun _ h => h) hw.2 hw trivial (.inl rfl) (h.reqP h250)).mono ?_
  rintro e w' ⟨A, c, he, hk, _, hs⟩
  exact ⟨A, c, he, hk.below fun _ h => h, hs⟩
end
theorem flat_by {α : Type} (f : α → List Int) (h : ∀ a, By (f a)) (l : List α) : By (l.flatMap f) := fun x hx => by
  obtain ⟨a, _, ha⟩ := List.mem_flatMap.1 hx
  exact h a x ha
theorem By.append {a b : List Int} (ha : By a) (hb : By b) : By (a ++ b) := fun x hx => by
  rcases List.mem_append.1 hx with h | h
  · exact ha x h
  · exact hb x h
theorem pt16_by (p : Int × Int) : By (pt16 p) := (word8_by _).append (word8_by _)
theorem q24_by (q : (Int × Int) × Int) : By (q24 q) := (pt16_by _).append (word8_by _)
/-- the bytes of a request are bytes, and not many -/
theorem hencode_bd {op vs pts : Int} {hrs : List Rg} {gs : List Gr} {ps : List (Int × Int)} {qs : List ((Int × Int) × Int)} {b : List Int} {er : Int} (h : hencode op vs hrs pts gs ps qs = (b, er)) (hn : ∀ g ∈ gs, g.1.n = g.2.length) :
    (er ≠ 0 → b = []) ∧ (er = 0 → b.length ≤ 200000 ∧ By b) := by
  unfold hencode at h
  by_cases hc : hcheck op vs hrs pts = 0
  · rw [if_neg (by simpa using hc)] at h
    by_cases ha : gs.length ≠ hrs.length ∨ (ps.length : Int) ≠ cntP op vs ∨ (qs.length : Int) ≠ cntQ op pts
    · rw [if_pos ha] at h
      simp only [Prod.mk.injEq] at h
      exact ⟨fun _ => h.1.symm, fun e => by omega⟩
    · rw [if_neg ha] at h
      cases hs : (gs.zip hrs).any szBad with
      | true =>
        rw [hs, if_pos rfl] at h
        simp only [Prod.mk.injEq] at h
        exact ⟨fun _ => h.1.symm, fun e => by omega⟩
      | false =>
        rw [hs, if_neg (by simp)] at h
        cases hk : (gs.zip hrs).any kdBad with
        | true =>
          rw [hk, if_pos rfl] at h
          simp only [Prod.mk.injEq] at h
          exact ⟨fun _ => h.1.symm, fun e => by omega⟩
        | false =>
          rw [hk, if_neg (by simp)] at h
          simp only [Prod.mk.injEq] at h
          refine ⟨fun e => absurd h.2.symm e, fun _ => ?_⟩
          rw [← h.1]
          obtain ⟨_, _, hl64, hcP, hcQ⟩ := cnt_bd hc
          have hl1 : gs.length = hrs.length := by omega
          have hsm := gs_small hs hl1
          have hgl := gBytes_len gs (fun x hx => by have h1 := hn x hx; have h2 := hsm x hx; omega)
          have hfl := fbytes_le op vs hrs pts
          constructor
          · rw [List.length_append, List.length_append, List.length_append, flat_len pt16 16 pt16_length, flat_len q24 24 q24_length]; omega
          · refine By.append (By.append (By.append ?_ ?_) (flat_by _ pt16_by _)) (flat_by _ q24_by _)
            · intro x hx
              obtain ⟨j, hj⟩ := List.getElem?_of_mem hx
              exact fbytes_byte hc j x hj
            · exact flat_by _ (fun g => flat_by _ pt16_by _) _
  · rw [if_pos hc] at h
    simp only [Prod.mk.injEq] at h
    exact ⟨fun _ => h.1.symm, fun e => absurd (h.2.trans e) hc⟩
theorem pj64 {p : Pt} (h : PJ p) : P64 p := by
  obtain ⟨⟨a, b⟩, c, d⟩ := h
  exact ⟨⟨a, by omega⟩, c, by omega⟩
/-- the encoding of a request is served as the request is handled -/
theorem serve_enc {op vs pts : Int} {hrs : List Rg} {gs : List Gr} {ps : List Pt} {qs : List ((Int × Int) × Int)} {b : List Int} (h : hencode op vs hrs pts gs ps qs = (b, 0)) (hn : ∀ g ∈ gs, g.1.n = g.2.length) (hg : ∀ g ∈ gs, PsJ g.2) (hp : PsJ ps) (hqj : ∀ q ∈ qs, PJ q.1) (hqu : ∀ q ∈ qs, U64 q.2) :
    ∃ a : Ans, hhandle op vs hrs pts gs ps qs = (a, 0) ∧ isAns op pts a.val a.cnt a.recs = true ∧ hrespond op vs hrs pts a.val a.cnt a.recs = (hserve b, 0) ∧ a.recs.length ≤ maxLen := by
  have hd := (hdecode_encode h hn (fun g hg' p hp' => pj64 (hg g hg' p hp')) (fun p hp' => pj64 (hp p hp')) (fun q hq => ⟨pj64 (hqj q hq), hqu q hq⟩)).1
  obtain ⟨k1, _, k3, k4⟩ := handle_ok (q := ⟨⟨op, vs, hrs.map rgBack, pts⟩, gs.map gdOf, ps, qs⟩) (by rw [h]) hn hqu rfl rfl rfl rfl
  refine ⟨_, k1, k3, ?_, ?_⟩
  · unfold hrespond hserve
    rw [if_neg (by simpa using k4), if_neg (by simp [k3]), hd, if_neg (by simp)]
  · obtain ⟨o1, o5, c3, c4, c5, c6, c7, c8, _⟩ := hcheck_zero k4
    have hp0 : 0 ≤ pts ∧ pts ≤ 4096 := by
      by_cases h5 : op = 5
      · have := c7 h5; omega
      · have := c8 h5; omega
    have hia := isAns_true k3 hp0.1
    unfold maxLen
    omega
end Go.Proofs.YtpnoofphfomjoaaGreatDoor
namespace Go.Proofs.YtpnoofphfomjoaaGreatDoor
open Go.RowKit Go.Shelf
section
variable (op vs pts : Int) (hrs : List Rg) (HA : Option Addr) (hc : Nat) (gs : List Gr) (GA : Option Addr) (gc : Nat) (ps : List Pt) (PA : Option Addr) (pc : Nat) (qs : List ((Int × Int) × Int)) (QA : Option Addr) (qc : Nat) (w : World)
variable (hr : ReqW w hrs HA gs GA ps PA pc qs QA) (hfix : Fixed w) (hg : 0 < w.heap.size) (hw : MW w)
include hr hfix hg hw
set_option maxRecDepth 1000000 in
set_option maxHeartbeats 4000000 in
theorem lawRound21 : Calls Tryz.prog 4 #[.agg #[.int .i64 op, .int .i64 vs, .slice HA hrs.length hc, .int .i64 pts, .slice GA gs.length gc, .slice PA ps.length pc, .slice QA qs.length qc]] w fun e w' => e = .returned (.bool true) ∧ Below w.heap.size w w' := by
  obtain ⟨rb, hrb⟩ : ∃ rb, rb = w.heap.size := ⟨_, rfl⟩
  obtain ⟨w0, hw0⟩ : ∃ w0, w0 = w.alloc (.cells #[.int .i64 op, .int .i64 vs, .slice HA hrs.length hc, .int .i64 pts, .slice GA gs.length gc, .slice PA ps.length pc, .slice QA qs.length qc] 28) := ⟨_, rfl⟩
  have hb0 : Below w.heap.size w w0 := by rw [hw0]; exact bl_alloc (Below.refl _ _) _
  have B0 : Blk w0 rb 28 #[.int .i64 op, .int .i64 vs, .slice HA hrs.length hc, .int .i64 pts, .slice GA gs.length gc, .slice PA ps.length pc, .slice QA qs.length qc] := by rw [hw0, hrb]; exact Blk.new _ _ _
  have HL := hide (skip21 op vs pts hrs HA hc gs GA gc ps PA pc qs QA qc w0 (hr.below hb0).hg hr.gn)
  have HAL := hide (fun (w' : World) (hb : Below w.heap.size w w') => alive21 w' (hfix.below hb hg) (Nat.lt_of_lt_of_le hg hb.size) (hw.step hb))
  have HEN := hide (fun (w' : World) (hb : Below w.heap.size w w') => encode_any op vs pts hrs HA hc gs GA gc ps PA pc qs QA qc w' (hr.below hb).hh (hr.below hb).hg (hr.below hb).gk (hr.below hb).hp (hr.below hb).hq hr.hn)
  have HHA := hide (fun (w' : World) (hb : Below w.heap.size w w') (h250 : ∀ g ∈ gs, g.1.n ≤ 250) => handle_nil op vs pts hc gc qc (hr.below hb) h250 (hw.step hb))
  have HSV := hide (fun (w' : World) (hb : Below w.heap.size w w') (bs : List Int) (A : Option Addr) (c : Nat) (hs : Sl w' w'.heap.size A (byCells bs)) (hcap : bs.length ≤ c) (hby : By bs) (hmax : bs.length ≤ 300000) => serve_any bs A c w' hs hcap hby hmax (hfix.below hb hg) (Nat.lt_of_lt_of_le hg hb.size) (hw.step hb))
  have HHH := hide (fun (w' : World) (hb : Below w.heap.size w w') => (hr.below hb).hh)
  obtain ⟨⟨bsr, er⟩, hE⟩ : ∃ r, hencode op vs hrs pts gs ps qs = r := ⟨_, rfl⟩
  have hbd := hencode_bd hE hr.len
  have HBD := hide hbd
  have HRT : Hid (er = 0 → ∃ a : Ans, hhandle op vs hrs pts gs ps qs = (a, 0) ∧ isAns op pts a.val a.cnt a.recs = true ∧ hrespond op vs hrs pts a.val a.cnt a.recs = (hserve bsr, 0) ∧ a.recs.length ≤ maxLen) := hide fun e => serve_enc (by rw [hE, e]) hr.len hr.gj hr.pj hr.qj hr.qu
  rw [hE] at HEN
  have hnn := hr.hn
  clear hE hbd hr hfix hg hw
  go_enter Tryz.func4, Tryz.ntmps4
  go_wp2_with fail
  rw [← hw0, ← hrb]
  have HRB := hide hrb
  clear hw0 hrb
  refine HL.out.mono ?_
  rintro e w1 ⟨z, rfl, hz, hT, hb1⟩
  have HB1 := bl_step hb0 hb1
  have B1 := B0.step hb1
  clear B0 hb0 hb1 HL
  rcases hz with rfl | rfl
  · have h250 := hide (hT rfl).1
    have hEN1 := hide (HEN.out w1 HB1)
    have b0 := B1.cell (i := 0) rfl
    have b1 := B1.cell (i := 1) rfl
    have b2 := B1.cell (i := 2) rfl
    have b3 := B1.cell (i := 3) rfl
    have b4 := B1.cell (i := 4) rfl
    have b5 := B1.cell (i := 5) rfl
    have b6 := B1.cell (i := 6) rfl
    clear hT HEN
    go_wp2_with fail
    refine hEN1.out.mono ?_
    rintro e w2 ⟨v, rfl, hv, hb2⟩
    dsimp only at hv ⊢
    obtain ⟨VA, vc, rfl, hvc⟩ := own_slice hv
    have HB2 := bl_step HB1 hb2
    have HSL2 : Hid (Sl w2 w2.heap.size VA (byCells bsr)) := hide (Sl.of_own hv)
    have B2 := B1.step hb2
    clear hv b0 b1 b2 b3 b4 b5 b6 B1 hb2 hEN1
    by_cases he : er = 0
    · obtain ⟨⟨val, cnt, recs⟩, hh, hia, hrs2, hrl⟩ := HRT.out he
      have hrsp := hrs2
      dsimp only at hrsp hrl
      obtain ⟨hb200, hby⟩ := HBD.out.2 he
      rw [hh] at HHA
      subst he
      have HA3 := hide (HHA.out w2 HB2 h250.out)
      have HRSP := hide hrsp; have HRL := hide hrl; have HBY := hide hby; have HB200 := hide hb200
      have b0 := B2.cell (i := 0) rfl
      have b1 := B2.cell (i := 1) rfl
      have b2 := B2.cell (i := 2) rfl
      have b3 := B2.cell (i := 3) rfl
      have b4 := B2.cell (i := 4) rfl
      have b5 := B2.cell (i := 5) rfl
      have b6 := B2.cell (i := 6) rfl
      clear hrsp hrl hby hb200 hrs2 hia hh HHA h250 HRT HBD
      go_wp2_with fail
      refine HA3.out.mono ?_
      rintro e w3 ⟨RA, rc, rfl, hb3, hs3⟩
      dsimp only at hs3 ⊢
      have HB3 := bl_step HB2 hb3
      have B3 := B2.step hb3
      have HSL3 := hide ((HSL2.out.below hb3).more hb3.size)
      clear b0 b1 b2 b3 b4 b5 b6 B2 hb3 HSL2 HA3
      obtain ⟨w4, hw4⟩ : ∃ w4, w4 = w3.alloc (.cells #[.int .i64 val, .int .i64 cnt, .slice RA recs.length rc] 33) := ⟨_, rfl⟩
      obtain ⟨ab, hab⟩ : ∃ ab, ab = w3.heap.size := ⟨_, rfl⟩
      have hb4 : Below w3.heap.size w3 w4 := by rw [hw4]; exact bl_alloc (Below.refl _ _) _
      have HB4 := bl_step HB3 hb4
      have A4 : Blk w4 ab 33 #[.int .i64 val, .int .i64 cnt, .slice RA recs.length rc] := by rw [hw4, hab]; exact Blk.new _ _ _
      have B4 := B3.step hb4
      have HSL4 := hide ((HSL3.out.below hb4).more hb4.size)
      have HSR4 := hide ((hs3.below hb4).more hb4.size)
      have HAB := hide hab
      have b0 : w4.cell? ⟨rb, 0, none⟩ = some (.int .i64 op) := B4.cell (i := 0) rfl
      have b1 : w4.cell? ⟨rb, 1, none⟩ = some (.int .i64 vs) := B4.cell (i := 1) rfl
      have b2 : w4.cell? ⟨rb, 2, none⟩ = some (.slice HA hrs.length hc) := B4.cell (i := 2) rfl
      have b3 : w4.cell? ⟨rb, 3, none⟩ = some (.int .i64 pts) := B4.cell (i := 3) rfl
      have a0 : w4.cell? ⟨ab, 0, none⟩ = some (.int .i64 val) := A4.cell (i := 0) rfl
      have a1 : w4.cell? ⟨ab, 1, none⟩ = some (.int .i64 cnt) := A4.cell (i := 1) rfl
      have a2 : w4.cell? ⟨ab, 2, none⟩ = some (.slice RA recs.length rc) := A4.cell (i := 2) rfl
      rw [hw4] at b0 b1 b2 b3 a0 a1 a2
      rw [hab] at a0 a1 a2
      have RS := respond_any op vs pts hrs HA hc val cnt recs RA rc w4 (HHH.out w4 HB4) hnn HSR4.out HRL.out
      rw [HRSP.out] at RS
      have HRS := hide RS
      clear RS hs3 hab B3 B4 A4 hb4 HSL3 HHH HSR4
      go_wp2_with fail
      rw [← hw4]
      clear hw4 b0 b1 b2 b3 a0 a1 a2
      refine HRS.out.mono ?_
      rintro e w5 ⟨v, rfl, hv, hb5⟩
      dsimp only at hv ⊢
      obtain ⟨UA, uc, rfl, huc⟩ := own_slice hv
      have HB5 := bl_step HB4 hb5
      have HSL5 := hide ((HSL4.out.below hb5).more hb5.size)
      have HSU5 : Hid (Sl w5 w5.heap.size UA (byCells (hserve bsr))) := hide (Sl.of_own hv)
      clear hv hb5 HSL4 HRS
      go_wp2_with fail
      refine (HAL.out w5 HB5).mono ?_
      rintro e w6 ⟨rfl, hb6⟩
      have HB6 := bl_step HB5 hb6
      have HSU6 := hide ((HSU5.out.below hb6).more hb6.size)
      have S6 := hide (HSV.out w6 HB6 bsr VA vc ((HSL5.out.below hb6).more hb6.size) hvc HBY.out (by have := HB200.out; omega))
      clear HSU5 HSL5 HSV hb6 HAL
      go_wp2_with fail
      refine S6.out.mono ?_
      rintro e w7 ⟨SA, sc, rfl, _, hb7, hs7⟩
      have HB7 := bl_step HB6 hb7
      have E7 := hide (equal_true (hserve bsr) SA UA sc uc w7 hs7 ((HSU6.out.below hb7).more hb7.size))
      clear hs7 hb7 HSU6 S6
      go_wp2_with fail
      refine E7.out.mono ?_
      rintro e w8 ⟨rfl, rfl⟩
      go_wp2
      go_ret
      exact ⟨rfl, HB7⟩
    · have hne : (er != 0) = true := by simpa using he
      have hnil := HBD.out.1 he
      subst hnil
      clear HRT HBD HHA he
      go_wp2_with fail
      refine (HAL.out w2 HB2).mono ?_
      rintro e w5 ⟨rfl, hb5⟩
      go_wp2
      go_ret
      exact ⟨rfl, bl_step HB2 hb5⟩
  · go_wp2_with fail
    refine (HAL.out w1 HB1).mono ?_
    rintro e w5 ⟨rfl, hb5⟩
    go_wp2
    go_ret
    exact ⟨rfl, bl_step HB1 hb5⟩
end
end Go.Proofs.YtpnoofphfomjoaaGreatDoor
