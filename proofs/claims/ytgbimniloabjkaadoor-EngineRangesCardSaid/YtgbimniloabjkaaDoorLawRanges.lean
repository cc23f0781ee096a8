/- EngineRanges: the law's function returns true. -/
import Derived.Test.YtgbimniloabjkaaDoorAlive19
import Derived.Test.YtgbimniloabjkaaDoorLarge19
import Derived.Test.YtgbimniloabjkaaDoorRefRespond
namespace Go.Proofs.YtgbimniloabjkaaDoor
open Go.RowKit Go.Shelf

theorem sign3 (x : Int) : 0 ≤ x.sign + 1 ∧ x.sign + 1 ≤ 2 := by rcases sign_bd x with h | h | h <;> rw [h] <;> decide
theorem convexA_bd (ps : List Pt) (p : Pt) : 0 ≤ convexA ps p ∧ convexA ps p ≤ 3 := by
  have h := sgnM_bd (locF (orientV ps) ps p (List.range (edgeN ps.length))).1 (locF (orientV ps) ps p (List.range (edgeN ps.length))).2
  have e : locV ps p = sgnM (locF (orientV ps) ps p (List.range (edgeN ps.length))).1 (locF (orientV ps) ps p (List.range (edgeN ps.length))).2 := rfl
  rw [← e] at h
  unfold convexA
  cases validV ps <;> simp <;> omega
theorem fenceA_bd (gs : List Gr) (p : Pt) : 0 ≤ fenceA gs p ∧ fenceA gs p ≤ 2 := by
  unfold fenceA
  cases fenceOk gs <;> cases memOk gs p <;> decide
/-- the law in plain words: the answer to an accepted request is an answer for its header -/
theorem ansV_is {op vs : Int} {hrs : List Rg} {pts : Int} {gs : List Gr} {ps : List Pt} {qs : List ((Int × Int) × Int)} (h : (ansV op vs hrs pts gs ps qs).2 = 0) :
    (hrespond op vs hrs pts (ansV op vs hrs pts gs ps qs).1 0 []).2 = 0 := by
  unfold ansV at h ⊢
  by_cases he : (hencode op vs hrs pts gs ps qs).2 ≠ 0
  · rw [if_pos he] at h; exact absurd h he
  rw [if_neg he] at h ⊢
  have he0 : (hencode op vs hrs pts gs ps qs).2 = 0 := by omega
  by_cases h5 : op = 5
  · rw [if_pos h5] at h; cases h
  rw [if_neg h5]
  dsimp only
  obtain ⟨hc, _⟩ := hencode_ok he0
  obtain ⟨h1, h2, _, _, _, _, _, hp, _⟩ := hcheck_zero hc
  have hpts : pts = 0 := hp h5
  have hb : 0 ≤ ansOp op gs ps ∧ ansOp op gs ps ≤ most op := by
    unfold ansOp most
    by_cases o1 : op = 1
    · rw [if_pos o1, if_neg (by omega), if_neg (by omega)]; exact sign3 _
    rw [if_neg o1]
    by_cases o2 : op = 2
    · rw [if_pos o2, if_neg (by omega), if_neg (by omega)]; exact sign3 _
    rw [if_neg o2]
    by_cases o3 : op = 3
    · rw [if_pos o3, if_pos o3]; exact convexA_bd _ _
    rw [if_neg o3, if_neg o3, if_neg h5]; exact fenceA_bd _ _
  have hi : isAns op pts (ansOp op gs ps) 0 [] = true := by
    unfold isAns
    rw [if_neg (by omega), if_neg (by omega), if_neg (by simp [hpts]), if_neg (by omega), if_neg (by unfold aLim; split <;> omega)]
    rfl
  unfold hrespond
  rw [if_neg (by simpa using hc), hi, if_neg (by simp)]
theorem ansV_err {op vs : Int} {hrs : List Rg} {pts : Int} {gs : List Gr} {ps : List Pt} {qs : List ((Int × Int) × Int)} (h : (ansV op vs hrs pts gs ps qs).2 ≠ 0) : (ansV op vs hrs pts gs ps qs).1 = 0 := by
  unfold ansV at h ⊢
  split
  · rfl
  · rename_i he
    rw [if_neg he] at h
    split
    · rfl
    · rename_i h5
      rw [if_neg h5] at h
      exact absurd rfl h

section
variable (op vs pts : Int) (hrs : List Rg) (HA : Option Addr) (hc : Nat) (gs : List Gr) (GA : Option Addr) (gc : Nat) (ps : List Pt) (PA : Option Addr) (pc : Nat) (qs : List ((Int × Int) × Int)) (QA : Option Addr) (qc : Nat) (w : World)
variable (hh : Sl w w.heap.size HA (rgCells hrs)) (hgc : Sl w w.heap.size GA (rgCells (gs.map (·.1)))) (hgs : GsOk w w.heap.size gs) (hps : Sl w w.heap.size PA (ptCs ps)) (hqs : Sl w w.heap.size QA (quCs qs)) (hpJ : PsJ ps) (hgJ : ∀ g ∈ gs, PsJ g.2)
variable (hn : hrs.length ≤ maxLen) (hgn : gs.length ≤ maxLen) (hcap : ps.length ≤ pc) (hw : MW w)
include hh hgc hgs hps hqs hpJ hgJ hn hgn hcap hw
set_option maxRecDepth 1000000 in
set_option maxHeartbeats 4000000 in
theorem lawRanges : Calls Tryd.prog 3 #[.agg #[.int .i64 op, .int .i64 vs, .slice HA hrs.length hc, .int .i64 pts, .slice GA gs.length gc, .slice PA ps.length pc, .slice QA qs.length qc]] w fun e w' => e = .returned (.bool true) ∧ Below w.heap.size w w' := by
  obtain ⟨rb, hrb⟩ : ∃ rb, rb = w.heap.size := ⟨_, rfl⟩
  obtain ⟨w0, hw0⟩ : ∃ w0, w0 = w.alloc (.cells #[.int .i64 op, .int .i64 vs, .slice HA hrs.length hc, .int .i64 pts, .slice GA gs.length gc, .slice PA ps.length pc, .slice QA qs.length qc] 28) := ⟨_, rfl⟩
  have hb0 : Below w.heap.size w w0 := by rw [hw0]; exact bl_alloc (Below.refl _ _) _
  have B0 : Blk w0 rb 28 #[.int .i64 op, .int .i64 vs, .slice HA hrs.length hc, .int .i64 pts, .slice GA gs.length gc, .slice PA ps.length pc, .slice QA qs.length qc] := by rw [hw0, hrb]; exact Blk.new _ _ _
  have L := large19 op vs pts hrs HA hc gs GA gc ps PA pc qs QA qc w0 ((hgc.below hb0).more hb0.size) hgn
  have HL := hide L; clear L
  have HAN := hide (fun (w' : World) (hb : Below w.heap.size w w') (h250 : ∀ g ∈ gs, g.1.n ≤ 250) => answer_nil w' (hw.step hb) op vs pts hrs HA hc gs GA gc ps PA pc qs QA qc hpJ ((hps.below hb).more hb.size) hcap ((hgc.below hb).more hb.size) (fun g hg => ⟨(hgs g hg).1, ((hgs g hg).2.below hb).more hb.size, hgJ g hg, by have := h250 g hg; have := (hgs g hg).1; omega⟩) ((hh.below hb).more hb.size) hn ((hqs.below hb).more hb.size))
  have HRS := hide (fun (val : Int) (w' : World) (hb : Below w.heap.size w w') => rrespond_any op vs pts hrs HA hc val 0 [] none 0 w' ((hh.below hb).more hb.size) (Sl.nil _ _ _) (by simp) (fun r hr => by cases hr))
  have HAL := hide (fun (w' : World) (hb : Below w.heap.size w w') => alive19 w' (hw.step hb))
  have HV0 := hide (fun h => ansV_err (op := op) (vs := vs) (hrs := hrs) (pts := pts) (gs := gs) (ps := ps) (qs := qs) h)
  have HV1 := hide (fun h => ansV_is (op := op) (vs := vs) (hrs := hrs) (pts := pts) (gs := gs) (ps := ps) (qs := qs) h)
  obtain ⟨⟨val, err⟩, hE⟩ : ∃ E, E = ansV op vs hrs pts gs ps qs := ⟨_, rfl⟩
  rw [← hE] at HAN HV0 HV1
  clear hE hh hgc hgs hps hqs hpJ hgJ hn hgn hcap hw
  go_enter Tryd.func3, Tryd.ntmps3
  go_wp2_with fail
  rw [← hw0, ← hrb]
  have HRB := hide hrb
  clear hw0 hrb
  refine HL.out.mono ?_
  rintro e w1 ⟨z, rfl, hz, hT, hb1⟩
  have HB1 := bl_step hb0 hb1
  have B1 := B0.step hb1
  clear B0 hb0 hb1 HL
  rcases hz with rfl | rfl
  · have h250 := hT rfl
    have A := HAN.out w1 HB1 h250

    have HA1 := hide A
    have b0 := B1.cell (i := 0) rfl
    have b1 := B1.cell (i := 1) rfl
    have b2 := B1.cell (i := 2) rfl
    have b3 := B1.cell (i := 3) rfl
    have b4 := B1.cell (i := 4) rfl
    have b5 := B1.cell (i := 5) rfl
    have b6 := B1.cell (i := 6) rfl
    clear hT h250 A HAN
    go_wp2_with fail
    refine HA1.out.mono ?_
    rintro e w2 ⟨rfl, hb2⟩
    have HB2 := bl_step HB1 hb2
    have B2 := B1.step hb2
    clear b0 b1 b2 b3 b4 b5 b6 B1 hb2 HA1
    obtain ⟨w3, hw3⟩ : ∃ w3, w3 = w2.alloc (.cells #[.int .i64 val, .int .i64 0, .slice none 0 0] 33) := ⟨_, rfl⟩
    obtain ⟨ab, hab⟩ : ∃ ab, ab = w2.heap.size := ⟨_, rfl⟩
    have HB3 : Below w.heap.size w w3 := by rw [hw3]; exact bl_alloc HB2 _
    have A3 : Blk w3 ab 33 #[.int .i64 val, .int .i64 0, .slice none 0 0] := by rw [hw3, hab]; exact Blk.new _ _ _
    have B3 := B2.alloc (.cells #[.int .i64 val, .int .i64 0, .slice none 0 0] 33)
    rw [← hw3] at B3
    have HAB := hide hab
    clear hab B2
    by_cases he : err = 0
    · subst he
      have b0 : w3.cell? ⟨rb, 0, none⟩ = some (.int .i64 op) := B3.cell (i := 0) rfl
      have b1 : w3.cell? ⟨rb, 1, none⟩ = some (.int .i64 vs) := B3.cell (i := 1) rfl
      have b2 : w3.cell? ⟨rb, 2, none⟩ = some (.slice HA hrs.length hc) := B3.cell (i := 2) rfl
      have b3 : w3.cell? ⟨rb, 3, none⟩ = some (.int .i64 pts) := B3.cell (i := 3) rfl
      have HR := hide (HRS.out val w3 HB3)
      have hf := HV1.out rfl
      clear HV0 HV1 HRS
      obtain ⟨⟨rbs, f⟩, hF⟩ : ∃ F, F = hrespond op vs hrs pts val 0 [] := ⟨_, rfl⟩
      rw [← hF] at HR hf
      dsimp only at hf
      subst hf
      clear hF
      rw [hw3] at b0 b1 b2 b3
      go_wp2_with fail
      rw [← hw3]
      clear hw3 b0 b1 b2 b3
      refine HR.out.mono ?_
      rintro e w4 ⟨v, rfl, _, hb4⟩
      have HB4 := bl_step HB3 hb4
      go_wp2_with fail
      refine (HAL.out w4 HB4).mono ?_
      rintro e w5 ⟨rfl, hb5⟩
      go_wp2
      go_ret
      exact ⟨rfl, bl_step HB4 hb5⟩
    · have hv : val = 0 := HV0.out he
      subst hv
      clear HV0 HV1 HRS B3
      go_wp2_with fail
      rw [← hw3]
      clear hw3
      refine (HAL.out w3 HB3).mono ?_
      rintro e w4 ⟨rfl, hb4⟩
      have A4 := A3.step hb4
      have a4 : w4.cell? ⟨ab, 0, none⟩ = some (.int .i64 0) := A4.cell (i := 0) rfl
      rw [HAB.out] at a4
      go_wp2
      go_ret
      exact ⟨rfl, bl_step HB3 hb4⟩
  · clear HAN HRS HV0 HV1
    go_wp2_with fail
    refine (HAL.out w1 HB1).mono ?_
    rintro e w2 ⟨rfl, hb2⟩
    go_wp2
    go_ret
    exact ⟨rfl, bl_step HB1 hb2⟩
end
end Go.Proofs.YtgbimniloabjkaaDoor
