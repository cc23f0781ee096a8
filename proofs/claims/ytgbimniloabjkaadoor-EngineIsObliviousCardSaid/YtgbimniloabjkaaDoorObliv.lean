/- EngineIsOblivious: the law's function returns true. -/
import Derived.Test.YtgbimniloabjkaaDoorLawEvents
import Derived.Test.YtgbimniloabjkaaDoorTapeEq
import Derived.Test.YtgbimniloabjkaaDoorAlike
import Derived.OpenShut
namespace Go.Proofs.YtgbimniloabjkaaDoor
open Go.RowKit Go.Shelf

theorem pt_info : (Tryd.prog.info? 51).map (fun i => (i.zero, i.size, i.bytes)) = some (some (.agg #[.int .i64 0, .int .i64 0]), 2, 16) := by kernel_rfl
theorem rg_info : (Tryd.prog.info? 53).map (fun i => (i.zero, i.size, i.bytes)) = some (some (.agg #[.bool false, .int .i64 0, .slice none 0 0]), 3, 40) := by kernel_rfl
theorem j64_wrap (x : Int) : J64 (wrap64 x) := by unfold J64 wrap64; omega
theorem j64_bits (o : BinOp) (x y : Int) : J64 (bits o .i64 x y) := by
  have h := wf_bits o .i64 x y
  simp [Lit.wf, IntKind.min, IntKind.max, IntKind.signed, IntKind.bits] at h
  unfold J64
  omega
section
variable {w w' : World} {C : Nat}
def QJ (w : World) (C : Nat) (gs : List Gr) (v : Value) : Prop :=
  w.ownsRow C 53 3 v gs.length (rgCells (gs.map (·.1))) ∧ ∀ g ∈ gs, g.1.n = g.2.length ∧ Sl w w.heap.size g.1.A (ptCs g.2) ∧ (ptCs g.2 ≠ [] → ∀ x, g.1.A = some x → C ≤ x.block ∧ v.ownBlock ≠ some x.block)
theorem QJ.nil (w : World) (C : Nat) : QJ w C [] (.slice none 0 0) := ⟨World.ownsRow_nil _ _ _ _, fun g hg => by simp at hg⟩
theorem QJ.move {gs : List Gr} {v : Value} (h : QJ w C gs v) (hz : w.heap.size ≤ w'.heap.size) (hb : ∀ b, C ≤ b → b < w.heap.size → w'.heap[b]? = w.heap[b]?) : QJ w' C gs v := by
  refine ⟨own_blk h.1 fun k hk => hb k (own_base h.1 hk) (own_lt h.1 hk), fun g hg => ?_⟩
  obtain ⟨h1, h2, h3⟩ := h.2 g hg
  refine ⟨h1, (h2.at_ fun b hlt hx x hA hxb => ?_).more hz, h3⟩
  subst hxb
  exact hb _ (h3 hx x hA).1 hlt
theorem QJ.gsOk {gs : List Gr} {v : Value} (h : QJ w C gs v) : GsOk w w.heap.size gs := fun g hg => ⟨(h.2 g hg).1, (h.2 g hg).2.1⟩
theorem qj_push {w7 wa w8 : World} {C g' cap n : Nat} {gs : List Gr} {gr : Gr} {v : Value} {xs : List Value} (hq : QJ w7 C gs v) (hb : Below w7.heap.size w7 wa)
    (hown1 : w8.ownsRow C 53 3 (.slice (some ⟨g', 0, none⟩) n cap) n xs) (hn : n = (gs ++ [gr]).length) (hx : xs = rgCells ((gs ++ [gr]).map (·.1)))
    (hgrow : wa.grownBy w8 v.ownBlock) (hat : v.ownBlock = some g' ∨ g' = wa.heap.size)
    (hnew : gr.1.n = gr.2.length ∧ Sl w7 w7.heap.size gr.1.A (ptCs gr.2) ∧ (ptCs gr.2 ≠ [] → ∀ x, gr.1.A = some x → C ≤ x.block ∧ v.ownBlock ≠ some x.block)) :
    QJ w8 C (gs ++ [gr]) (.slice (some ⟨g', 0, none⟩) n cap) := by
  subst hn hx
  refine ⟨hown1, fun g hg => ?_⟩
  have hg' : g.1.n = g.2.length ∧ Sl w7 w7.heap.size g.1.A (ptCs g.2) ∧ (ptCs g.2 ≠ [] → ∀ x, g.1.A = some x → C ≤ x.block ∧ v.ownBlock ≠ some x.block) := by
    rcases List.mem_append.1 hg with h | h
    · exact hq.2 g h
    · rw [List.mem_singleton.1 h]; exact hnew
  obtain ⟨h1, h2, h3⟩ := hg'
  refine ⟨h1, (h2.at_ fun b hlt hx x hA hxb => ?_).more (Nat.le_trans hb.size hgrow.size), fun hx x hA => ⟨(h3 hx x hA).1, ?_⟩⟩
  · subst hxb
    exact (hgrow.block _ (Nat.lt_of_lt_of_le hlt hb.size) (fun e => (h3 hx x hA).2 e.symm)).trans (hb.block _ hlt)
  · have := h2.blk_lt hx hA
    have := hb.size
    rcases hat with h | h
    · rw [show (Value.slice (some ⟨g', 0, none⟩) (gs ++ [gr]).length cap).ownBlock = some g' from rfl, ← h]; exact (h3 hx x hA).2
    · intro e
      have : g' = x.block := by simpa [Value.ownBlock] using e
      omega
end
theorem ptCs_app (a b : List Pt) : ptCs (a ++ b) = ptCs a ++ ptCs b := by simp [ptCs]

/-- a new tape, apart from whatever one names -/
theorem new_free (w : World) : Calls Tryd.prog 10 #[] w fun e w' => ∃ g m, e = .returned (.pointer (some ⟨g, 0, none⟩)) ∧ Below w.heap.size w w' ∧ w.heap.size ≤ g ∧ w.heap.size ≤ m ∧ g < w'.heap.size ∧ m < w'.heap.size ∧ ∀ R : Nat → Prop, ¬ R g → ¬ R m → TpIn w' R g m [] := by
  have hmm := @run_makeMap Tryd.prog
  go_enter Tryd.func10, Tryd.ntmps10
  go_wp2
  go_ret
  refine ⟨w.heap.size + 1, w.heap.size, rfl, bl_alloc (bl_alloc (Below.refl _ _) _) _, by omega, by omega, by simp, by simp; omega, fun R h1 h2 => ⟨.slice none 0 0, 0, .map [], ?_, h1, h2, World.ownsRow_nil _ _ _ _, by simp [Value.ownBlock], by simp [Value.ownBlock], Nat.le_refl _, (World.ownsMap_made w Tryd.prog 3 (plainElem Tryd.prog 3)).alloc _⟩⟩
  have h := Blk.new (w.alloc (.map #[] 0)) 75 #[.slice none 0 0, .map (some w.heap.size)]
  rw [World.size_alloc] at h
  exact h
/-- the bound of a region's points hangs on the structure alone -/
theorem key_bd {gs ss : List Gr} (h : ss.map gKey = gs.map gKey) (hb : ∀ g ∈ gs, g.1.n ≤ 250) : ∀ g ∈ ss, g.1.n ≤ 250 := fun g hg => by
  have h1 : gKey g ∈ gs.map gKey := by rw [← h]; exact List.mem_map.2 ⟨g, hg, rfl⟩
  obtain ⟨g', hg', he⟩ := List.mem_map.1 h1
  unfold gKey at he
  simp only [Prod.mk.injEq] at he
  rw [← he.2.2.1]
  exact hb g' hg'
/-- Answer, with all that the request holds below B -/
theorem ansCall (op vs pts : Int) (hrs : List Rg) (HA : Option Addr) (hc : Nat) (gs : List Gr) (GA : Option Addr) (gc : Nat) (ps : List Pt) (PA : Option Addr) (pc : Nat) (qs : List ((Int × Int) × Int)) (QA : Option Addr) (qc : Nat) (w : World) (B n np : Nat) (P : Nat → Prop) (g m : Nat)
    (hP : ∀ k, P k → k < w.heap.size) (hB : ∀ k, k < B → P k) (hB' : B ≤ w.heap.size) (hmw : 0 < B) (hw : MW w) (ht : TpIn w P g m [])
    (hh : Sl w B HA (rgCells hrs)) (hgc : Sl w B GA (rgCells (gs.map (·.1)))) (hgs : GsOk w B gs) (hJ : ∀ g ∈ gs, PsJ g.2) (h250 : ∀ g ∈ gs, g.1.n ≤ 250) (hps : Sl w B PA (ptCs ps)) (hpJ : PsJ ps) (hqs : Sl w B QA (quCs qs)) (hcap : ps.length ≤ pc) (hn : hrs.length ≤ maxLen) (hgl : gs.length = n) (hpl : ps.length = np) :
    Calls Tryd.prog 8 #[.pointer (some ⟨g, 0, none⟩), .agg #[.int .i64 op, .int .i64 vs, .slice HA hrs.length hc, .int .i64 pts, .slice GA n gc, .slice PA np pc, .slice QA qs.length qc]] w fun e w2 => e = .returned (.tuple #[.agg #[.int .i64 (ansV op vs hrs pts gs ps qs).1, .int .i64 0, .slice none 0 0], .int .i64 (ansV op vs hrs pts gs ps qs).2]) ∧ KeepP P w w2 ∧ TpIn w2 P g m (ansEv op vs hrs pts gs ps qs) := by
  subst hgl hpl
  exact answer_any P (some (g, m)) [] op vs pts hrs HA hc gs GA gc ps PA pc qs QA qc w hP (hB _ hmw) hw ht (by simp) hpJ (hps.slP hB) hcap (hgc.slP hB) (fun g hg => ⟨(hgs g hg).1, (hgs g hg).2.slP hB, hJ g hg, by have := h250 g hg; have := (hgs g hg).1; omega⟩) (hh.slP hB) hn (hqs.more hB')
theorem TpIn.step' {w w' : World} {P : Nat → Prop} {g m : Nat} {es : List Ev} (h : TpIn w P g m es) (hb : Below w.heap.size w w') : TpIn w' P g m es := Tp.step (t := some (g, m)) h hb
theorem TpIn.mono' {w : World} {P R : Nat → Prop} {g m : Nat} {es : List Ev} (h : TpIn w P g m es) (hR : ∀ k, R k → P k) : TpIn w R g m es := Tp.mono (t := some (g, m)) h hR
theorem GsOk.below {w w' : World} {B : Nat} {gs : List Gr} (h : GsOk w B gs) (hb : Below B w w') : GsOk w' B gs := fun g hg => ⟨(h g hg).1, (h g hg).2.below hb⟩
theorem GsOk.more {w : World} {B B' : Nat} {gs : List Gr} (h : GsOk w B gs) (hb : B ≤ B') : GsOk w B' gs := fun g hg => ⟨(h g hg).1, (h g hg).2.more hb⟩

section
variable (op vs pts : Int) (hrs : List Rg) (HA : Option Addr) (hc : Nat) (gs : List Gr) (GA : Option Addr) (gc : Nat) (ps : List Pt) (PA : Option Addr) (pc : Nat) (qs : List ((Int × Int) × Int)) (QA : Option Addr) (qc : Nat) (by_ : Pt) (w : World)
variable (hh : Sl w w.heap.size HA (rgCells hrs)) (hgc : Sl w w.heap.size GA (rgCells (gs.map (·.1)))) (hgs : GsOk w w.heap.size gs) (hps : Sl w w.heap.size PA (ptCs ps)) (hqs : Sl w w.heap.size QA (quCs qs)) (hpJ : PsJ ps) (hgJ : ∀ g ∈ gs, PsJ g.2)
variable (hn : hrs.length ≤ maxLen) (hgn : gs.length ≤ maxLen) (hcap : ps.length ≤ pc) (hpn : ps.length ≤ maxLen) (hw : MW w)
include hh hgc hgs hps hqs hpJ hgJ hn hgn hcap hpn hw
set_option maxRecDepth 1000000 in
set_option maxHeartbeats 8000000 in
theorem lawObliv : Calls Tryd.prog 5 #[.agg #[.int .i64 op, .int .i64 vs, .slice HA hrs.length hc, .int .i64 pts, .slice GA gs.length gc, .slice PA ps.length pc, .slice QA qs.length qc], .agg #[.int .i64 by_.1, .int .i64 by_.2]] w fun e w' => e = .returned (.bool true) ∧ Below w.heap.size w w' := by
  obtain ⟨rb, hrb⟩ : ∃ rb, rb = w.heap.size := ⟨_, rfl⟩
  obtain ⟨w0, hw0⟩ : ∃ w0, w0 = (w.alloc (.cells #[.int .i64 op, .int .i64 vs, .slice HA hrs.length hc, .int .i64 pts, .slice GA gs.length gc, .slice PA ps.length pc, .slice QA qs.length qc] 28)).alloc (.cells #[.int .i64 by_.1, .int .i64 by_.2] 51) := ⟨_, rfl⟩
  have hb0 : Below w.heap.size w w0 := by rw [hw0]; exact bl_alloc (bl_alloc (Below.refl _ _) _) _
  have B0 : Blk w0 rb 28 #[.int .i64 op, .int .i64 vs, .slice HA hrs.length hc, .int .i64 pts, .slice GA gs.length gc, .slice PA ps.length pc, .slice QA qs.length qc] := by rw [hw0, hrb]; exact (Blk.new _ _ _).alloc _
  have Y0 : Blk w0 (rb + 1) 51 #[.int .i64 by_.1, .int .i64 by_.2] := by rw [hw0, hrb]; exact Blk.new2 _ _ _ _
  have L := large19 op vs pts hrs HA hc gs GA gc ps PA pc qs QA qc w0 ((hgc.below hb0).more hb0.size) hgn
  have HL := hide L; clear L
  have HAL := hide (fun (w' : World) (hb : Below w.heap.size w w') => alive19 w' (hw.step hb))
  obtain ⟨i0, hi, hz0, hz1, hz2⟩ := info_parts pt_info
  obtain ⟨i1, hri, hy0, hy1, hy2⟩ := info_parts rg_info
  have HPS := hide hps; have HGC := hide hgc; have HGS := hide hgs
  unfold maxLen at hpn hgn
  go_enter Tryd.func5, Tryd.ntmps5
  go_wp2_with fail
  rw [← hw0, ← hrb]
  have HRB := hide hrb
  clear hw0 hrb
  refine HL.out.mono ?_
  rintro e w1 ⟨z, rfl, hz, hT, hb1⟩
  have HB1 := bl_step hb0 hb1
  have B1 := B0.step hb1
  have Y1 := Y0.step hb1
  clear B0 Y0 hb0 hb1 HL
  rcases hz with rfl | rfl
  · obtain ⟨h250, hg250, hp100⟩ := hT rfl
    have hJ0 := hgJ
    have b0 := B1.cell (i := 0) rfl
    have b1 := B1.cell (i := 1) rfl
    have b2 := B1.cell (i := 2) rfl
    have b3 := B1.cell (i := 3) rfl
    have b4 := B1.cell (i := 4) rfl
    have b5 := B1.cell (i := 5) rfl
    have b6 := B1.cell (i := 6) rfl
    have hrl := B1.lt
    have hyl := Y1.lt
    go_wp2
    obtain ⟨sb, hsb⟩ : ∃ sb, sb = w1.heap.size := ⟨_, rfl⟩
    obtain ⟨wS, hwS⟩ : ∃ wS, wS = w1.alloc (.cells #[.int .i64 op, .int .i64 vs, .slice HA hrs.length hc, .int .i64 pts, .slice GA gs.length gc, .slice none 0 0, .slice QA qs.length qc] 28) := ⟨_, rfl⟩
    have hbS : Below sb w1 wS := by rw [hwS, hsb]; exact bl_alloc (Below.refl _ _) _
    have S0 : Blk wS sb 28 #[.int .i64 op, .int .i64 vs, .slice HA hrs.length hc, .int .i64 pts, .slice GA gs.length gc, .slice none 0 0, .slice QA qs.length qc] := by rw [hwS, hsb]; exact Blk.new _ _ _
    have hzS : sb < wS.heap.size := S0.lt
    have hrl' : rb < sb := by omega
    have hyl' : rb + 1 < sb := by omega
    have HWS := hide hwS; have HSB := hide hsb
    rw [← HWS.out]
    clear hrl hyl hsb hwS
    rw [← HSB.out]
    go_loopw [28] (fun i wr => ∃ (k : Nat) (ts : List Pt) (v : Value), k ≤ ps.length ∧ i = .int .i64 k ∧ ts.length = k ∧ PsJ ts ∧ Below sb wS wr ∧ Blk wr sb 28 #[.int .i64 op, .int .i64 vs, .slice HA hrs.length hc, .int .i64 pts, .slice GA gs.length gc, v, .slice QA qs.length qc] ∧ wr.ownsRow (sb + 1) 51 2 v k (ptCs ts))
      (fun i _ => ps.length - (intOf i).toNat)
    case atStart => exact ⟨0, [], .slice none 0 0, by omega, rfl, rfl, (fun p hp => by simp at hp), Below.refl _ _, S0, World.ownsRow_nil _ _ _ _⟩
    case round =>
      obtain ⟨k, ts, v, hk, rfl, htl, hJ, hbr, hSr, hown⟩ := hrel
      have hb1r := hbS.trans hbr
      have Yr := Y1.below hb1r hyl'
      have HJ := hide hJ; clear hJ
      have y0 := Yr.cell (i := 0) rfl
      have y1 := Yr.cell (i := 1) rfl
      have s5 := hSr.cell (i := 5) rfl
      have f5 := hSr.frozen 5
      have hsl := hSr.lt
      have s4 := hSr.cell (i := 4) rfl
      have f4 := hSr.frozen 4
      have Rr := B1.below hb1r hrl'
      have r4 := Rr.cell (i := 4) rfl
      have hrlr : rb < wr.heap.size := by omega
      have hylr : rb + 1 < wr.heap.size := by omega
      by_cases hlt : k < ps.length
      · obtain ⟨p, hp⟩ : ∃ p, ps[k]? = some p := ⟨_, List.getElem?_eq_getElem hlt⟩
        obtain ⟨pb, po, rfl, hpb, d0, d1⟩ := HPS.out.pt hp
        have c0 := ((hb1r.cell (p := ⟨pb, _, none⟩) (by have := HB1.size; have := HSB.out; show pb < sb; omega)).trans (HB1.cell (p := ⟨pb, _, none⟩) hpb)).trans d0
        have c1 := ((hb1r.cell (p := ⟨pb, _, none⟩) (by have := HB1.size; have := HSB.out; show pb < sb; omega)).trans (HB1.cell (p := ⟨pb, _, none⟩) hpb)).trans d1
        clear d0 d1 hp b0 b1 b2 b3 b4 b5 b6
        go_wp2_with (at_builtin; refine wpList_append_lies _ rfl (.tmp 33) (.tmp 48) 25 rfl (sb + 1) 51 i0 (.agg #[.int .i64 0, .int .i64 0]) 2 16 Tryd.underlying25 hi hz0 hz1 hz2 rfl (by decide) v k _ rfl (own_step hown (bl_alloc (bl_alloc (Below.refl _ _) _) _)) ⟨wr.heap.size + 1, 0, none⟩ 1 1 [.int .i64 (wrap64 (wrap64 (p.2 * by_.1) + by_.2)), .int .i64 (bits .xor .i64 p.1 by_.2)] rfl rfl ?a1 ?a2 ?a3 ?a4 ?a5 ?a6 (wr.heap.size + 2) ?a7 ?_)
        case a1 => exact blk_cells (Blk.new2 _ _ _ _)
        case a2 => simp [Value.oneCell']
        case a3 => omega
        case a4 => unfold maxLen; omega
        case a5 => omega
        case a6 => simp; omega
        case a7 => simp
        intro g' cap w8 hown8 hgrow hat hlt8
        have hsv : some sb ≠ v.ownBlock := own_ne hown (by omega)
        have S8 := ((hSr.alloc (.cells #[.int .i64 p.1, .int .i64 p.2] 51)).alloc (.cells #[.int .i64 (wrap64 (wrap64 (p.2 * by_.1) + by_.2)), .int .i64 (bits .xor .i64 p.1 by_.2)] 51)).grown hgrow hsv
        have hb8 : Below sb wS w8 := ((hbr.alloc (by omega) _).alloc (by simp; omega) _).grown hgrow (by simp; omega) (fun j hj => by have := own_base hown hj; omega)
        have t5 := S8.cell (i := 5) rfl
        have ft5 := S8.frozen 5
        have HO8 := hide hown8; have HB8 := hide hb8; have HS8 := hide S8
        clear hown8 hb8 S8 hsv hgrow hat hlt8
        clear s5 f5 y0 y1 c0 c1
        go_wp2
        go_roundw
        case rel =>
          refine ⟨k + 1, ts ++ [(wrap64 (wrap64 (p.2 * by_.1) + by_.2), bits .xor .i64 p.1 by_.2)], _, by omega, by go_num, by simp [htl], ?_, HB8.out.setCell (Nat.le_refl _) _, HS8.out.set 5 _, ?_⟩
          · intro q hq
            rcases List.mem_append.1 hq with h | h
            · exact HJ.out q h
            · rw [List.mem_singleton.1 h]
              refine ⟨j64_wrap _, ?_⟩
              show J64 (bits .xor .i64 p.1 by_.2)
              exact j64_bits _ _ _
          · rw [ptCs_app]
            refine own_blk HO8.out fun j hj => Below.heap_setCell _ _ _ _ ?_
            have := own_base HO8.out hj
            show j ≠ sb
            omega
        case measure => simp [intOf]; omega
      · obtain rfl : ps.length = k := by omega
        obtain ⟨TA, tc, rfl, htc⟩ := own_slice hown
        go_wp2
        obtain ⟨wA, hwA⟩ : ∃ wA, wA = wr.setCell ⟨sb, 4, none⟩ (.slice none 0 0) := ⟨_, rfl⟩
        obtain ⟨C, hC⟩ : ∃ C, C = wA.heap.size := ⟨_, rfl⟩
        have hzA : wA.heap.size = wr.heap.size := by rw [hwA]; exact World.size_setCell _ _ _
        have SA : Blk wA sb 28 #[.int .i64 op, .int .i64 vs, .slice HA hrs.length hc, .int .i64 pts, .slice none 0 0, .slice TA ps.length tc, .slice QA qs.length qc] := by rw [hwA]; exact hSr.set 4 _
        have hbA : Below sb w1 wA := by rw [hwA]; exact hb1r.setCell (Nat.le_refl _) _
        have TSA : SlP wA (fun k => k < C ∧ k ≠ sb) TA (ptCs ts) := by
          rcases Sl.of_own hown with h | ⟨b, off, hA, hb, hc⟩
          · exact .inl h
          · have h1 := own_base hown (k := b) (by rw [hA]; rfl)
            refine .inr ⟨b, off, hA, ⟨by omega, by omega⟩, fun j u hu => ?_⟩
            rw [hwA]
            exact (World.cell?_of_block (Below.heap_setCell _ _ _ _ (by show b ≠ sb; omega))).trans (hc j u hu)
        have hCs : sb < C := by omega
        have hCe : C ≤ wA.heap.size ∧ wA.heap.size ≤ C := by omega
        rw [← hwA]
        have HTSA := hide TSA; have HHC := hide hC; have HTL := hide htl; have HTC := hide htc
        clear hwA hown s5 f5 y0 y1 s4 f4 r4 hSr hbr hb1r Yr Rr hsl hrlr hylr hzA TSA hC htl htc hlt S0 hbS HWS
        clear b0 b1 b2 b3 b4 b5 b6
        rename World => wA0
        go_loopw [56] (fun i wr => ∃ (k : Nat) (ss : List Gr) (v : Value), k ≤ gs.length ∧ i = .int .i64 k ∧ ss.length = k ∧ Hid (ss.map gKey = (gs.take k).map gKey) ∧ Hid (∀ g ∈ ss, PsJ g.2) ∧ KeepP (fun b => b < C ∧ b ≠ sb) wA0 wr ∧ Blk wr sb 28 #[.int .i64 op, .int .i64 vs, .slice HA hrs.length hc, .int .i64 pts, v, .slice TA ps.length tc, .slice QA qs.length qc] ∧ QJ wr C ss v)
          (fun i _ => gs.length - (intOf i).toNat)
        case atStart => exact ⟨0, [], .slice none 0 0, by omega, rfl, rfl, hide rfl, hide (fun g hg => by simp at hg), KeepP.refl _ _, SA, QJ.nil _ _⟩
        case round =>
          obtain ⟨k, ss, v, hk, rfl, hsl, HMAP, HJS, hkp, hSq, hqj⟩ := hrel
          rename World => wq
          have hbq : Below sb w1 wq := hbA.trans (hkp.below fun j hj => ⟨by omega, by omega⟩)
          have Yq := Y1.below hbq hyl'
          have y0 := Yq.cell (i := 0) rfl
          have y1 := Yq.cell (i := 1) rfl
          have s4 := hSq.cell (i := 4) rfl
          have f4 := hSq.frozen 4
          have hCq : C ≤ wq.heap.size := by have := hkp.size; omega
          have hsq := hSq.lt
          have hylq : rb + 1 < wq.heap.size := by omega
          have HQJ := hide hqj; clear hqj
          by_cases hlt : k < gs.length
          · obtain ⟨g, hg⟩ : ∃ g, gs[k]? = some g := ⟨_, List.getElem?_eq_getElem hlt⟩
            have hgm : (gs.map (·.1))[k]? = some g.1 := by rw [List.getElem?_map, hg]; rfl
            obtain ⟨gb, goff, rfl, hgb, d0, d1, d2⟩ := HGC.out.rg hgm
            have hgb1 : gb < sb := by have := HB1.size; have := HSB.out; omega
            have c0 := ((hbq.cell (p := ⟨gb, _, none⟩) hgb1).trans (HB1.cell (p := ⟨gb, _, none⟩) hgb)).trans d0
            have c1 := ((hbq.cell (p := ⟨gb, _, none⟩) hgb1).trans (HB1.cell (p := ⟨gb, _, none⟩) hgb)).trans d1
            have c2 := ((hbq.cell (p := ⟨gb, _, none⟩) hgb1).trans (HB1.cell (p := ⟨gb, _, none⟩) hgb)).trans d2
            have hmem := List.mem_of_getElem? hg
            obtain ⟨hgn1, hgsl⟩ := HGS.out g hmem
            have hg250 := h250 g hmem
            have HG := hide hg
            obtain ⟨⟨d, sv, A, n, c⟩, pl⟩ := g
            dsimp only at c0 c1 c2 hgn1 hgsl hg250
            subst hgn1
            have HGSL := hide hgsl
            clear d0 d1 d2 hgm hg hmem hgsl
            go_wp2_with fail
            obtain ⟨xb, hxb⟩ : ∃ xb, xb = wq.heap.size := ⟨_, rfl⟩
            obtain ⟨wx, hwx⟩ : ∃ wx, wx = wq.alloc (.cells #[.bool d, .int .i64 sv, .slice A pl.length c] 53) := ⟨_, rfl⟩
            have hbx : Below xb wq wx := by rw [hwx, hxb]; exact bl_alloc (Below.refl _ _) _
            have X0 : Blk wx xb 53 #[.bool d, .int .i64 sv, .slice A pl.length c] := by rw [hwx, hxb]; exact Blk.new _ _ _
            have hzx : wx.heap.size ≤ xb + 1 ∧ xb + 1 ≤ wx.heap.size := by rw [hwx, hxb]; simp
            have hCx : C ≤ xb := by omega
            have hsx : sb < xb := by omega
            have hyx : rb + 1 < xb := by omega
            rw [← hwx, ← hxb]
            have HXB := hide hxb
            clear hxb hwx c0 c1 c2 hylq hsq
            go_loopw [10, 63] (fun u i wr => ∃ (j : Nat) (ls : List Pt), j ≤ pl.length ∧ i = .int .i64 j ∧ ls.length = j ∧ Hid (PsJ ls) ∧ Below wx.heap.size wx wr ∧ wr.ownsRow (xb + 1) 51 2 u j (ptCs ls))
              (fun _ i _ => pl.length - (intOf i).toNat)
            case atStart => exact ⟨0, [], by omega, rfl, rfl, hide (fun p hp => by simp at hp), Below.refl _ _, World.ownsRow_nil _ _ _ _⟩
            case round =>
              rename_i wj
              obtain ⟨j, ls, hj, rfl, hll, HJL, hbj, hown⟩ := hrel
              rename World => wi
              have hbi : Below xb wq wi := hbx.trans (hbj.mono (by omega))
              have hwz := hbj.size
              have hyi : rb + 1 < wi.heap.size := by omega
              by_cases hlj : j < pl.length
              · obtain ⟨p, hp⟩ : ∃ p, pl[j]? = some p := ⟨_, List.getElem?_eq_getElem hlj⟩
                obtain ⟨pb, po, rfl, hpb, d0, d1⟩ := HGSL.out.pt hp
                have hpb1 : pb < sb := by have := HB1.size; have := HSB.out; omega
                have c0 := (((hbi.cell (p := ⟨pb, _, none⟩) (Nat.lt_trans hpb1 hsx)).trans (hbq.cell (p := ⟨pb, _, none⟩) hpb1)).trans (HB1.cell (p := ⟨pb, _, none⟩) hpb)).trans d0
                have c1 := (((hbi.cell (p := ⟨pb, _, none⟩) (Nat.lt_trans hpb1 hsx)).trans (hbq.cell (p := ⟨pb, _, none⟩) hpb1)).trans (HB1.cell (p := ⟨pb, _, none⟩) hpb)).trans d1
                have Yi := Yq.below hbi hyx
                have yi0 := Yi.cell (i := 0) rfl
                have yi1 := Yi.cell (i := 1) rfl
                clear d0 d1 hp y0 y1 s4 f4
                go_wp2_with (at_builtin; refine wpList_append_lies _ rfl (.tmp 67) (.tmp 82) 25 rfl (xb + 1) 51 i0 (.agg #[.int .i64 0, .int .i64 0]) 2 16 Tryd.underlying25 hi hz0 hz1 hz2 rfl (by decide) _ j _ rfl (own_step hown (bl_alloc (bl_alloc (Below.refl _ _) _) _)) ⟨wi.heap.size + 1, 0, none⟩ 1 1 [.int .i64 (bits .xor .i64 p.2 by_.1), .int .i64 (wrap64 (wrap64 (p.1 * by_.2) + by_.1))] rfl rfl ?i1 ?i2 ?i3 ?i4 ?i5 ?i6 (wi.heap.size + 2) ?i7 ?_)
                case i1 => exact blk_cells (Blk.new2 _ _ _ _)
                case i2 => simp [Value.oneCell']
                case i3 => omega
                case i4 => unfold maxLen; omega
                case i5 => omega
                case i6 => simp; omega
                case i7 => simp
                intro g' cap w8 hown8 hgrow hat hlt8
                have hb8 : Below wx.heap.size wx w8 := ((hbj.alloc (by omega) _).alloc (by simp; omega) _).grown hgrow (by simp; omega) (fun j hj => by have := own_base hown hj; omega)
                have HO8 := hide hown8; have HB8 := hide hb8
                clear hown8 hb8 hgrow hat hlt8 hown
                clear yi0 yi1 c0 c1
                go_wp2
                go_roundw
                case rel =>
                  refine ⟨j + 1, ls ++ [(bits .xor .i64 p.2 by_.1, wrap64 (wrap64 (p.1 * by_.2) + by_.1))], by omega, by go_num, by simp [hll], hide ?_, HB8.out, ?_⟩
                  · intro q hq
                    rcases List.mem_append.1 hq with h | h
                    · exact HJL.out q h
                    · rw [List.mem_singleton.1 h]
                      refine ⟨?_, j64_wrap _⟩
                      show J64 (bits .xor .i64 p.2 by_.1)
                      exact j64_bits _ _ _
                  · rw [ptCs_app]
                    exact HO8.out
                case measure => simp [intOf]; omega
              · obtain rfl : pl.length = j := by omega
                obtain ⟨LA, lc, rfl, hlc⟩ := own_slice hown
                have X6 : Blk wi xb 53 #[.bool d, .int .i64 sv, .slice A pl.length c] := X0.below hbj (by omega)
                have x2 := X6.cell (i := 2) rfl
                have fx2 := X6.frozen 2
                have hxi := X6.lt
                have s6 := hSq.below hbi hsx
                have hL6 := Sl.of_own hown
                have hLo : ∀ x, LA = some x → xb + 1 ≤ x.block := fun x hx => own_base hown (by rw [hx]; rfl)
                obtain ⟨w7, hw7⟩ : ∃ w7, w7 = wi.setCell ⟨xb, 2, none⟩ (.slice LA pl.length lc) := ⟨_, rfl⟩
                have hz7 : w7.heap.size = wi.heap.size := by rw [hw7]; exact World.size_setCell _ _ _
                have X7 : Blk w7 xb 53 #[.bool d, .int .i64 sv, .slice LA pl.length lc] := by rw [hw7]; exact X6.set 2 _
                have S7 : Blk w7 sb 28 #[.int .i64 op, .int .i64 vs, .slice HA hrs.length hc, .int .i64 pts, v, .slice TA ps.length tc, .slice QA qs.length qc] := by rw [hw7]; exact s6.far (by dsimp only; omega) _
                have hb7 : Below xb wq w7 := by rw [hw7]; exact hbi.setCell (Nat.le_refl _) _
                have hL7 : Sl w7 w7.heap.size LA (ptCs ls) := by
                  rcases hL6 with h | ⟨b, off, hA, hb, hc⟩
                  · exact .inl h
                  · have h1 := hLo _ hA
                    dsimp only at h1
                    refine .inr ⟨b, off, hA, by omega, fun j u hu => ?_⟩
                    rw [hw7]
                    exact (World.cell?_of_block (Below.heap_setCell _ _ _ _ (by show b ≠ xb; omega))).trans (hc j u hu)
                have hQ7 : QJ w7 C ss v := HQJ.out.move (by rw [hz7]; exact hbi.size) fun b _ hb => hb7.block b (by rw [HXB.out]; exact hb)
                have hvb : ∀ b, v.ownBlock = some b → b < xb := fun b hb => by rw [HXB.out]; exact own_lt HQJ.out.1 hb
                have hown7 := hQ7.1
                rw [hsl] at hown7
                have hw7s := hw7.symm
                have q0 := X7.cell (i := 0) rfl
                have q1 := X7.cell (i := 1) rfl
                have q2 := X7.cell (i := 2) rfl
                have q4 := S7.cell (i := 4) rfl
                have hx7 := X7.lt
                have hs7 := S7.lt
                have HQ7 := hide hQ7; have HL7 := hide hL7; have HLO := hide hLo; have HVB := hide hvb; have HB7 := hide hb7
                have hC7 : C ≤ w7.heap.size := by omega
                have hz7' : wi.heap.size ≤ w7.heap.size ∧ w7.heap.size ≤ wi.heap.size := by omega
                have hwx7 : xb + 1 ≤ w7.heap.size := by omega
                clear hw7 hz7 s6 hL6 hQ7 hL7 hLo hvb hown hb7 y0 y1 s4 f4 HQJ
                go_wp2_with (at_builtin; refine wpList_append_lies _ rfl (.tmp 88) (.tmp 90) 22 rfl C 53 i1 (.agg #[.bool false, .int .i64 0, .slice none 0 0]) 3 40 Tryd.underlying22 hri hy0 hy1 hy2 rfl (by decide) v k _ rfl (own_step hown7 (bl_alloc (Below.refl _ _) _)) ⟨w7.heap.size, 0, none⟩ 1 1 [.bool d, .int .i64 sv, .slice LA pl.length lc] rfl rfl ?k1 ?k2 ?k3 ?k4 ?k5 ?k6 (w7.heap.size + 1) ?k7 ?_)
                case k1 => exact blk_cells (Blk.new _ _ _)
                case k2 => simp [Value.oneCell']
                case k3 => omega
                case k4 => unfold maxLen; omega
                case k5 => omega
                case k6 => simp; omega
                case k7 => simp
                intro g' cap w8 hown8 hgrow hat hlt8
                have hbA7 : Below w7.heap.size w7 (w7.alloc (.cells #[.bool d, .int .i64 sv, .slice LA pl.length lc] 53)) := bl_alloc (Below.refl _ _) _
                have hQ8 : QJ w8 C (ss ++ [(⟨d, sv, LA, pl.length, lc⟩, ls)]) (.slice (some ⟨g', 0, none⟩) (k + 1) cap) :=
                  qj_push HQ7.out hbA7 hown8 (by simp [hsl]) (by simp [rgCells, Rg.cells]) hgrow (by simpa using hat) ⟨by dsimp only; omega, HL7.out, fun _ x hx => ⟨by have := HLO.out x hx; omega, fun e => by have := HLO.out x hx; have := HVB.out _ e; omega⟩⟩
                have hgb : ∀ b', b' < C → (w8.heap[b']? = w7.heap[b']?) := fun b' hb' => by
                  refine (hgrow.block b' (by simp; omega) (fun e => ?_)).trans (hbA7.block b' (by omega))
                  have := own_base hown7 e.symm
                  omega
                have S8 : Blk w8 sb 28 #[.int .i64 op, .int .i64 vs, .slice HA hrs.length hc, .int .i64 pts, v, .slice TA ps.length tc, .slice QA qs.length qc] := (hgb sb hCs).trans S7
                have hz8 : w7.heap.size ≤ w8.heap.size := Nat.le_trans hbA7.size hgrow.size
                have K8 : KeepP (fun b => b < C ∧ b ≠ sb) wq w8 := by
                  have k1 : KeepP (fun b => b < C ∧ b ≠ sb) wq w7 := KeepP.of_below HB7.out (fun b hb => by have := hb.1; omega)
                  exact k1.trans ⟨hgrow.os.trans hbA7.os, hgrow.tape.trans hbA7.tape, hgrow.output.trans hbA7.output, hz8, fun b' hb' => hgb b' hb'.1⟩
                have HQ8 := hide hQ8; have HK8 := hide K8
                have q4' := S8.cell (i := 4) rfl
                have fz4 := S8.frozen 4
                clear hQ8 K8 hgb hown8 hgrow q4 q0 q1 q2 hw7s x2 fx2
                go_wp2
                go_roundw
                case rel =>
                  refine ⟨k + 1, ss ++ [(⟨d, sv, LA, pl.length, lc⟩, ls)], _, by omega, by go_num, by simp [hsl], hide ?_, hide ?_, hkp.trans (HK8.out.trans (KeepP.setCell (by omega) 4 _ _)), S8.set 4 _, HQ8.out.move (by simp [World.size_setCell]) (fun b' h1 h2 => Below.heap_setCell w8 ⟨sb, 4, none⟩ _ b' (by simp; omega))⟩
                  · rw [List.take_add_one, HG.out, List.map_append, List.map_append, HMAP.out]
                    show _ = _ ++ [gKey (⟨d, sv, A, pl.length, c⟩, pl)]
                    show _ ++ [gKey (⟨d, sv, LA, pl.length, lc⟩, ls)] = _
                    unfold gKey
                    rw [hll]
                  · intro q hq
                    rcases List.mem_append.1 hq with h | h
                    · exact HJS.out q h
                    · rw [List.mem_singleton.1 h]
                      exact HJL.out
                case measure => simp [intOf]; omega
          · obtain rfl : gs.length = k := by omega
            rw [List.take_length] at HMAP
            obtain ⟨VA, vc, rfl, hvc⟩ := own_slice HQJ.out.1
            have hSq' : Blk wq sb 28 #[.int .i64 op, .int .i64 vs, .slice HA hrs.length hc, .int .i64 pts, .slice VA gs.length vc, .slice TA ps.length tc, .slice QA qs.length qc] := by rw [← hsl]; exact hSq
            have hVA : Sl wq wq.heap.size VA (rgCells (ss.map (·.1))) := Sl.of_own HQJ.out.1
            have hSS := HQJ.out.gsOk
            have hTA : Sl wq wq.heap.size TA (ptCs ts) := (HTSA.out.kept hkp).sl (fun k hk => by omega)
            have hbq' : Below w1.heap.size w1 wq := by rw [← HSB.out]; exact hbq
            have HBQ := bl_step HB1 hbq'
            have h250' := key_bd HMAP.out h250
            have hal := answer_alike (op := op) (vs := vs) (hrs := hrs) (pts := pts) (qs := qs) HMAP.out (show ts.length = ps.length from HTL.out)
            obtain ⟨⟨val, err⟩, hE⟩ : ∃ E, E = ansV op vs hrs pts gs ps qs := ⟨_, rfl⟩
            obtain ⟨⟨val2, err2⟩, hE2⟩ : ∃ E, E = ansV op vs hrs pts ss ts qs := ⟨_, rfl⟩
            obtain ⟨ev, hev⟩ : ∃ ev, ev = ansEv op vs hrs pts gs ps qs := ⟨_, rfl⟩
            have hevl : ev.length ≤ 500000 := by rw [hev]; exact ansEv_length _ _ _ _ _ _ _
            rw [← hE, ← hE2, ← hev] at hal
            obtain ⟨hal1, hal2⟩ := hal
            dsimp only at hal1
            subst hal1
            have hrq := B1.below hbq hrl'
            have HSS := hide hSS; have HVA := hide hVA; have HTA := hide hTA; have HE1 := hide hE; have HE2 := hide hE2; have HEV := hide hev; have HEV2 := hide hal2; have HN250 := hide h250'; have HN1 := hide h250
            clear hSS hVA hTA hE hE2 hev hal2 h250' h250 s4 f4 y0 y1 hSq HQJ hvc
            go_wp2_with fail
            refine (new_free wq).mono ?_
            rintro e wt ⟨gt, mt, rfl, hbt, hgt, hmt, hgt', hmt', htt⟩
            go_wp2_with fail
            refine (new_free wt).mono ?_
            rintro e wu ⟨gu, mu, rfl, hbu, hgu, hmu, hgu', hmu', huu⟩
            have hzt := hbt.size; have hzu := hbu.size
            have hbqu : Below wq.heap.size wq wu := bl_step hbt hbu
            have HBU := bl_step HBQ hbqu
            have Ru := hrq.step hbqu
            have Su := hSq'.step hbqu
            have ht1 : TpIn wu (fun k => k < wu.heap.size ∧ k ≠ gt ∧ k ≠ mt) gt mt [] := TpIn.step' (htt _ (fun h => h.2.1 rfl) (fun h => h.2.2 rfl)) hbu
            have hu1 : TpIn wu (fun k => k ≠ gu ∧ k ≠ mu) gu mu [] := huu _ (fun h => h.1 rfl) (fun h => h.2 rfl)
            have hz0q : w.heap.size ≤ wq.heap.size := HBQ.size
            have hmwq : 0 < wq.heap.size := Nat.lt_of_lt_of_le hw.2 hz0q
            have HC1 := ansCall op vs pts hrs HA hc gs GA gc ps PA pc qs QA qc wu wq.heap.size gs.length ps.length (fun k => k < wu.heap.size ∧ k ≠ gt ∧ k ≠ mt) gt mt (fun k hk => hk.1) (fun k hk => ⟨by omega, by omega, by omega⟩) (by omega) hmwq (hw.step HBU) ht1
              ((hh.below HBU).more hz0q) ((HGC.out.below HBU).more hz0q) ((HGS.out.below HBU).more hz0q) hJ0 HN1.out ((HPS.out.below HBU).more hz0q) hpJ ((hqs.below HBU).more hz0q) hcap hn rfl rfl
            rw [← HE1.out, ← HEV.out] at HC1
            have HCA := hide HC1
            have b0 := Ru.cell (i := 0) rfl
            have b1 := Ru.cell (i := 1) rfl
            have b2 := Ru.cell (i := 2) rfl
            have b3 := Ru.cell (i := 3) rfl
            have b4 := Ru.cell (i := 4) rfl
            have b5 := Ru.cell (i := 5) rfl
            have b6 := Ru.cell (i := 6) rfl
            have hrq' := hrq.lt
            have hsq' := hSq'.lt
            have HTT := hide htt; have HUU := hide huu; have HU1 := hide hu1
            clear htt huu hu1 ht1 HC1 Ru
            go_wp2_with fail
            refine HCA.out.mono ?_
            rintro e wa ⟨rfl, hka, hta⟩
            have hkqa : Below wq.heap.size wu wa := hka.below fun k hk => ⟨by omega, by omega, by omega⟩
            have hbqa : Below wq.heap.size wq wa := hbqu.trans hkqa
            have HBA := bl_step HBQ hbqa
            clear b0 b1 b2 b3 b4 b5 b6
            obtain ⟨wb, hwb⟩ : ∃ wb, wb = wa.alloc (.cells #[.int .i64 val, .int .i64 0, .slice none 0 0] 33) := ⟨_, rfl⟩
            have hbb : Below wa.heap.size wa wb := by rw [hwb]; exact bl_alloc (Below.refl _ _) _
            have hbqb : Below wq.heap.size wq wb := bl_step hbqa hbb
            have HBB := bl_step HBQ hbqb
            have Sa := hSq'.step hbqa
            have hza := hka.size; have hzb := hbb.size
            have hu2 : TpIn wb (fun k => k < wb.heap.size ∧ k ≠ gu ∧ k ≠ mu) gu mu [] := ((HU1.out.keep hka (fun k hk hnk => by omega)).step' hbb).mono' (fun k hk => hk.2)
            have htb : TpIn wb (fun k => k < wu.heap.size ∧ k ≠ gt ∧ k ≠ mt) gt mt ev := TpIn.step' hta hbb
            have hwqb := hbqb.size
            have HC2 := ansCall op vs pts hrs HA hc ss VA vc ts TA tc qs QA qc wb wq.heap.size gs.length ps.length (fun k => k < wb.heap.size ∧ k ≠ gu ∧ k ≠ mu) gu mu (fun k hk => hk.1) (fun k hk => ⟨by omega, by omega, by omega⟩) (by omega) hmwq (hw.step HBB) hu2
              ((hh.below HBB).more hz0q) (HVA.out.below hbqb) (HSS.out.below hbqb) HJS.out HN250.out (HTA.out.below hbqb) HJ.out ((hqs.below HBB).more hz0q) (by have h1 := HTL.out; have h2 := HTC.out; omega) hn hsl HTL.out
            rw [← HE2.out, HEV2.out] at HC2
            have HCB := hide HC2
            have s0 := Sa.cell (i := 0) rfl
            have s1 := Sa.cell (i := 1) rfl
            have s2 := Sa.cell (i := 2) rfl
            have s3 := Sa.cell (i := 3) rfl
            have s4 := Sa.cell (i := 4) rfl
            have s5 := Sa.cell (i := 5) rfl
            have s6 := Sa.cell (i := 6) rfl
            have hsa := Sa.lt
            have HTB := hide htb
            clear hu2 htb hta HC2 Sa hka
            go_wp2_with fail
            rw [← hwb]
            clear hwb
            refine HCB.out.mono ?_
            rintro e wc ⟨rfl, hkc, huc⟩
            have hzc := hkc.size
            have hbqc : Below wq.heap.size wq wc := hbqb.trans (hkc.below fun k hk => ⟨by omega, by omega, by omega⟩)
            have htc' : TpIn wc (fun k => k < wu.heap.size ∧ k ≠ gt ∧ k ≠ mt) gt mt ev := HTB.out.keep hkc (fun k hk hnk => by omega)
            obtain ⟨wd, hwd⟩ : ∃ wd, wd = wc.alloc (.cells #[.int .i64 val2, .int .i64 0, .slice none 0 0] 33) := ⟨_, rfl⟩
            have hbd : Below wc.heap.size wc wd := by rw [hwd]; exact bl_alloc (Below.refl _ _) _
            have hbqd : Below wq.heap.size wq wd := bl_step hbqc hbd
            have HBD := bl_step HBQ hbqd
            have htd := htc'.step' hbd
            have hud := huc.step' hbd
            clear s0 s1 s2 s3 s4 s5 s6 htc' huc hkc hbd
            go_wp2_with fail
            rw [← hwd]
            clear hwd
            refine (HAL.out wd HBD).mono ?_
            rintro e we ⟨rfl, hbe⟩
            have HBE := bl_step HBD hbe
            have HEQ := hide (tequal_any _ _ gt mt gu mu ev we (htd.step' hbe) (hud.step' hbe) (by omega))
            clear htd hud hbe
            go_wp2_with fail
            refine HEQ.out.mono ?_
            rintro e wf ⟨rfl, hbf⟩
            have HBF := bl_step HBE hbf
            go_wp2
            trace_state
            go_ret
            exact ⟨rfl, HBF⟩
  · go_wp2_with fail
    refine (HAL.out w1 HB1).mono ?_
    rintro e w2 ⟨rfl, hb2⟩
    go_wp2
    go_ret
    exact ⟨rfl, bl_step HB1 hb2⟩
end
end Go.Proofs.YtgbimniloabjkaaDoor
