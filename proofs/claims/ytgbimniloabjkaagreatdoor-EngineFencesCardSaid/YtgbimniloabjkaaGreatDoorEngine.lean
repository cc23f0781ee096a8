/- engine.Convex and engine.Fence: the answers to a query about a polygon and about a fence. -/
import Derived.Test.YtgbimniloabjkaaGreatDoorFenceMember
namespace Go.Proofs.YtgbimniloabjkaaGreatDoor
open Go.RowKit Go.Shelf

set_option maxRecDepth 100000 in
set_option maxHeartbeats 1000000 in
theorem choose_any (b : Bool) (x o : Int) (h0 : 0 ≤ x) (h1 : x ≤ 1000) (h2 : 0 ≤ o) (h3 : o ≤ 1000) (w : World) : Calls Tryz.prog 28 #[.int .u64 (msk b), .int .i64 x, .int .u64 o] w fun e w' => e = .returned (.int .i64 (bif b then x else o)) ∧ w = w' := by
  have hx : IntKind.u64.wrap x = x := by rw [IntKind.wrap_u64]; omega
  have hv : IntKind.i64.wrap (bif b then x else o) = (bif b then x else o) := by rw [IntKind.wrap_i64]; cases b <;> simp <;> omega
  have HS := hide (select_any b x o h0 (by omega) h2 (by omega) w)
  obtain ⟨r, hr⟩ : ∃ r, r = (bif b then x else o) := ⟨_, rfl⟩
  rw [← hr] at hv HS
  rw [← hr]
  clear hr
  go_enter Tryz.func28, Tryz.ntmps28
  go_wp2_with fail
  refine HS.out.mono ?_
  rintro e w' ⟨rfl, rfl⟩
  go_wp2
  go_ret
  exact ⟨rfl, rfl⟩
set_option maxRecDepth 100000 in
set_option maxHeartbeats 1000000 in
theorem bit_any (b : Bool) (w : World) : Calls Tryz.prog 36 #[.int .u64 (msk b)] w fun e w' => e = .returned (.int .u64 (bif b then 1 else 0)) ∧ w = w' := by
  have h : bits BinOp.and IntKind.u64 (msk b) 1 = (bif b then 1 else 0) := by cases b <;> decide
  go_enter Tryz.func36, Tryz.ntmps36
  go_wp2
  go_ret
  exact ⟨rfl, rfl⟩

/-- the answer about a polygon, and the events -/
def convexA (ps : List Pt) (p : Pt) : Int := bif validV ps then locV ps p + 1 else 3
def convexEv (n : Nat) : List Ev := vEv n (List.range (edgeN n)) ++ locEv (List.range (edgeN n))
/-- the answer about a fence, and the events -/
def fenceA (gs : List Gr) (p : Pt) : Int := bif fenceOk gs then (bif memOk gs p then 1 else 0) else 2
def fenceEv (gs : List Gr) : List Ev := fenceVEv gs ++ fenceMEv gs
theorem fenceVEv_length (gs : List Gr) : (fenceVEv gs).length ≤ 262208 := by
  unfold fenceVEv
  split
  · rename_i h
    have h1 := fvEv_length 0 gs
    have h2 : gs.length ≤ 64 := by
      unfold fcheck at h
      split at h
      · omega
      · rename_i h2; rw [List.length_map] at h2; omega
    omega
  · simp

section
variable (P : Nat → Prop) (t : Option (Nat × Nat)) (es : List Ev) (p : Pt) (hp : PJ p) (w : World) (hP : ∀ k, P k → k < w.heap.size) (hg0 : P 0) (hw : MW w) (ht : Tp w P t es) (hl : es.length ≤ 600000)
include hp hP hg0 hw ht hl
set_option maxRecDepth 100000 in
set_option maxHeartbeats 2000000 in
theorem convex_any (ps : List Pt) (hps : PsJ ps) (hn : ps.length ≤ 10000) (A : Option Addr) (c : Nat) (hs : SlP w P A (ptCs ps)) :
    Calls Tryz.prog 11 #[.pointer (tapeA t), .slice A ps.length c, .agg #[.int .i64 p.1, .int .i64 p.2]] w fun e w' => e = .returned (.int .i64 (convexA ps p)) ∧ KeepP P w w' ∧ Tp w' P t (es ++ convexEv ps.length) := by
  obtain ⟨w0, hw0⟩ : ∃ w0, w0 = w.alloc (.cells #[.int .i64 p.1, .int .i64 p.2] 44) := ⟨_, rfl⟩
  have hb0 : Below w.heap.size w w0 := by rw [hw0]; exact bl_alloc (Below.refl _ _) _
  have B0 : Blk w0 w.heap.size 44 #[.int .i64 p.1, .int .i64 p.2] := by rw [hw0]; exact Blk.new _ _ _
  have hm := more_lt hP hb0
  have hk0 : KeepP P w w0 := KeepP.of_below hb0 hP
  have HV := hide (valid_any (More P w w0) t es ps hps hn A c w0 hm (.inl hg0) ((hs.kept hk0).mono fun k h => .inl h) (hw.step hb0) (ht.more hb0) (by omega))
  have HI : Hid (More P w w0 w.heap.size) := .inr ⟨Nat.le_refl _, B0.lt⟩
  have HP := hide hP; have HG := hide hg0; have HS := hide hs; have HW := hide hw; have HPS := hide hps; have HPJ := hide hp; have HB0 := hide hb0; have HM := hide hm
  clear hP hg0 hs hw hps hp ht hb0 hm hk0
  go_enter Tryz.func11, Tryz.ntmps11
  go_wp2_with fail
  rw [← hw0]
  have HW0 := hide hw0
  clear hw0
  refine HV.out.mono ?_
  rintro e w1 ⟨rfl, hk1, ht1⟩
  have B1 := B0.kept hk1 HI.out
  have z0 := B1.cell (i := 0) rfl
  have z1 := B1.cell (i := 1) rfl
  dsimp at z0 z1
  have hk01 : KeepP P w w1 := KeepP.more HB0.out HP.out hk1
  have hle : (es ++ vEv ps.length (List.range (edgeN ps.length))).length ≤ 900000 := by
    have h1 := rgVEv_length 1 ps.length
    have h2 : rgVEv 1 ps.length = vEv ps.length (List.range (edgeN ps.length)) := rfl
    rw [h2] at h1
    rw [List.length_append]; omega
  have HL := hide (locate_any P t _ ps HPS.out hn A c p HPJ.out w1 (fun k hk => Nat.lt_of_lt_of_le (HP.out k hk) hk01.size) HG.out (HS.out.kept hk01) (HW.out.kept hk01 HG.out) (ht1.mono fun k h => .inl h) hle)
  have HK1 := hide hk01
  have hlb := sgnM_bd (locF (orientV ps) ps p (List.range (edgeN ps.length))).1 (locF (orientV ps) ps p (List.range (edgeN ps.length))).2
  have hloc : locV ps p = sgnM (locF (orientV ps) ps p (List.range (edgeN ps.length))).1 (locF (orientV ps) ps p (List.range (edgeN ps.length))).2 := rfl
  rw [← hloc] at hlb
  obtain ⟨L, hL⟩ : ∃ L, L = locV ps p := ⟨_, rfl⟩
  rw [← hL] at hlb HL
  have hwr : IntKind.i64.wrap (L + 1) = L + 1 := by rw [IntKind.wrap_i64]; omega
  have HA : Hid (convexA ps p = bif validV ps then L + 1 else 3) := by rw [hL]; exact rfl
  clear hk1 ht1 B1 B0 hk01 hle HV hloc hL
  go_wp2_with fail
  refine HL.out.mono ?_
  rintro e w2 ⟨rfl, hk2, ht2⟩
  have HCH := hide (fun w => choose_any (validV ps) (L + 1) 3 (by omega) (by omega) (by omega) (by omega) w)
  clear z0 z1
  go_wp2_with fail
  refine (HCH.out w2).mono ?_
  rintro e w3 ⟨rfl, rfl⟩
  go_wp2
  go_ret
  refine ⟨ret_int HA.out.symm, HK1.out.trans hk2, ?_⟩
  rw [List.append_assoc] at ht2
  exact ht2

set_option maxRecDepth 100000 in
set_option maxHeartbeats 2000000 in
theorem efence_any (gs : List Gr) (GA : Option Addr) (gc : Nat) (hs : SlP w P GA (rgCells (gs.map (·.1)))) (hgs : GsP w P gs) :
    Calls Tryz.prog 18 #[.pointer (tapeA t), .slice GA gs.length gc, .agg #[.int .i64 p.1, .int .i64 p.2]] w fun e w' => e = .returned (.int .i64 (fenceA gs p)) ∧ KeepP P w w' ∧ Tp w' P t (es ++ fenceEv gs) := by
  obtain ⟨w0, hw0⟩ : ∃ w0, w0 = w.alloc (.cells #[.int .i64 p.1, .int .i64 p.2] 44) := ⟨_, rfl⟩
  have hb0 : Below w.heap.size w w0 := by rw [hw0]; exact bl_alloc (Below.refl _ _) _
  have B0 : Blk w0 w.heap.size 44 #[.int .i64 p.1, .int .i64 p.2] := by rw [hw0]; exact Blk.new _ _ _
  have hm := more_lt hP hb0
  have hk0 : KeepP P w w0 := KeepP.of_below hb0 hP
  have HV := hide (fenceValid_any (More P w w0) t es gs GA gc w0 hm (.inl hg0) ((hs.kept hk0).mono fun k h => .inl h) (fun g hg => ⟨(hgs g hg).1, ((hgs g hg).2.1.kept hk0).mono fun k h => .inl h, (hgs g hg).2.2⟩) (hw.step hb0) (ht.more hb0) hl)
  have HI : Hid (More P w w0 w.heap.size) := .inr ⟨Nat.le_refl _, B0.lt⟩
  have HP := hide hP; have HG := hide hg0; have HS := hide hs; have HW := hide hw; have HGS := hide hgs; have HPJ := hide hp; have HB0 := hide hb0; have HM := hide hm
  clear hP hg0 hs hw hgs hp ht hb0 hm hk0
  go_enter Tryz.func18, Tryz.ntmps18
  go_wp2_with fail
  rw [← hw0]
  have HW0 := hide hw0
  clear hw0
  refine HV.out.mono ?_
  rintro e w1 ⟨rfl, hk1, ht1⟩
  have B1 := B0.kept hk1 HI.out
  have z0 := B1.cell (i := 0) rfl
  have z1 := B1.cell (i := 1) rfl
  dsimp at z0 z1
  have hk01 : KeepP P w w1 := KeepP.more HB0.out HP.out hk1
  have hle : (es ++ fenceVEv gs).length ≤ 890000 := by
    have h1 := fenceVEv_length gs
    rw [List.length_append]; omega
  have HL := hide (fenceMember_any P t _ gs GA gc p HPJ.out w1 (fun k hk => Nat.lt_of_lt_of_le (HP.out k hk) hk01.size) HG.out (HS.out.kept hk01) (HGS.out.kept hk01) (HW.out.kept hk01 HG.out) (ht1.mono fun k h => .inl h) hle)
  have HK1 := hide hk01
  have HA : Hid (fenceA gs p = bif fenceOk gs then (bif memOk gs p then 1 else 0) else 2) := rfl
  obtain ⟨mb, hmb⟩ : ∃ mb, mb = memOk gs p := ⟨_, rfl⟩
  rw [← hmb] at HL HA
  obtain ⟨bt, hbt⟩ : ∃ bt : Int, bt = (bif mb then 1 else 0) := ⟨_, rfl⟩
  have hbb : 0 ≤ bt ∧ bt ≤ 1 := by rw [hbt]; cases mb <;> decide
  have HBI := hide (fun w => bit_any mb w)
  rw [← hbt] at HBI HA
  have hwr : IntKind.i64.wrap bt = bt := by rw [IntKind.wrap_i64]; omega
  clear hk1 ht1 B1 B0 hk01 hle HV hmb hbt
  go_wp2_with fail
  refine HL.out.mono ?_
  rintro e w2 ⟨rfl, hk2, ht2⟩
  clear z0 z1
  go_wp2_with fail
  refine (HBI.out w2).mono ?_
  rintro e w2' ⟨rfl, rfl⟩
  have HCH := hide (fun w => choose_any (fenceOk gs) bt 2 (by omega) (by omega) (by omega) (by omega) w)
  go_wp2_with fail
  refine (HCH.out w2).mono ?_
  rintro e w3 ⟨rfl, rfl⟩
  go_wp2
  go_ret
  refine ⟨ret_int HA.out.symm, HK1.out.trans hk2, ?_⟩
  rw [List.append_assoc] at ht2
  exact ht2
end
end Go.Proofs.YtgbimniloabjkaaGreatDoor
