/- FenceValid -/
import Derived.Test.YtpnoofphfomjoaaGreatDoorPkE30
import Derived.Test.YtpnoofphfomjoaaGreatDoorPkE32
import Derived.Test.YtpnoofphfomjoaaGreatDoorPkE47
namespace Go.Proofs.YtpnoofphfomjoaaGreatDoor
open Go.RowKit Go.Shelf
/-- a region with v vertices and these points is valid; where a point lies; the events of both -/
def rgOk (v : Int) (ps : List Pt) : Bool := if v = 0 then discOk ps else validV ps
def rgVEv (v : Int) (n : Nat) : List Ev := if v = 0 then discVEv n else vEv n (List.range (edgeN n))
def rgL (v : Int) (ps : List Pt) (p : Pt) : Int := if v = 0 then discL ps p else locV ps p
def rgLEv (v : Int) (n : Nat) : List Ev := if v = 0 then discLEv n else locEv (List.range (edgeN n))
theorem edgeN_le (n : Nat) : edgeN n ≤ n ∧ edgeN n ≤ 64 := by unfold edgeN; split <;> omega
theorem rgVEv_length (v : Int) (n : Nat) : (rgVEv v n).length ≤ 4096 := by
  unfold rgVEv
  split
  · unfold discVEv; split <;> simp
  · have h := vEv_length n (List.range (edgeN n))
    rw [List.length_range] at h
    have he := edgeN_le n
    by_cases h64 : n ≤ 64
    · exact Nat.le_trans h (Nat.mul_le_mul he.2 h64)
    · have h0 : edgeN n = 0 := by unfold edgeN; rw [if_neg (by omega)]
      rw [h0] at h ⊢
      omega
theorem rgLEv_length (v : Int) (n : Nat) : (rgLEv v n).length ≤ 64 := by
  unfold rgLEv
  split
  · unfold discLEv; split <;> simp
  · unfold locEv; rw [List.length_map, List.length_range]; exact (edgeN_le n).2
theorem methV_round (d : Bool) (v : Int) (A : Option Addr) (n c : Nat) (w : World) : (method 399 203 (.agg #[.bool d, .int .i64 v, .slice A n c]) "geofence/fence.valid").run Tryz.prog w = .ok (244, .agg #[.bool d, .int .i64 v, .slice A n c]) w := by kernel_rfl
theorem methV_convex (d : Bool) (v : Int) (A : Option Addr) (n c : Nat) (w : World) : (method 399 204 (.agg #[.bool d, .int .i64 v, .slice A n c]) "geofence/fence.valid").run Tryz.prog w = .ok (251, .agg #[.bool d, .int .i64 v, .slice A n c]) w := by kernel_rfl
theorem methL_round (d : Bool) (v : Int) (A : Option Addr) (n c : Nat) (w : World) : (method 399 203 (.agg #[.bool d, .int .i64 v, .slice A n c]) "geofence/fence.locate").run Tryz.prog w = .ok (242, .agg #[.bool d, .int .i64 v, .slice A n c]) w := by kernel_rfl
theorem methL_convex (d : Bool) (v : Int) (A : Option Addr) (n c : Nat) (w : World) : (method 399 204 (.agg #[.bool d, .int .i64 v, .slice A n c]) "geofence/fence.locate").run Tryz.prog w = .ok (249, .agg #[.bool d, .int .i64 v, .slice A n c]) w := by kernel_rfl
section
variable (P : Nat → Prop) (t : Option (Nat × Nat)) (es : List Ev) (d : Bool) (v : Int) (ps : List Pt) (hps : PsJ ps) (hn : ps.length ≤ 10000) (A : Option Addr) (c : Nat) (w : World) (hP : ∀ k, P k → k < w.heap.size) (hg0 : P 1) (hs : SlP w P A (ptCs ps)) (hw : MW w) (ht : Tp w P t es) (hl : es.length ≤ 900000)
include hps hn hP hg0 hs hw ht hl
set_option maxRecDepth 100000 in
set_option maxHeartbeats 1000000 in
omit hn in
theorem roundValid : Calls Tryz.prog 244 #[.agg #[.bool d, .int .i64 v, .slice A ps.length c], .pointer (tapeA t)] w fun e w' => e = .returned (.int .u64 (msk (discOk ps))) ∧ KeepP P w w' ∧ Tp w' P t (es ++ discVEv ps.length) := by
  obtain ⟨w0, hw0⟩ : ∃ w0, w0 = w.alloc (.cells #[.bool d, .int .i64 v, .slice A ps.length c] 203) := ⟨_, rfl⟩
  have hb0 : Below w.heap.size w w0 := by rw [hw0]; exact bl_alloc (Below.refl _ _) _
  have hk0 : KeepP P w w0 := KeepP.of_below hb0 hP
  have HC := hide (discValid_any P t es ps hps A c w0 (fun k hk => Nat.lt_of_lt_of_le (hP k hk) hb0.size) hg0 (hs.kept hk0) (hw.step hb0) (ht.step hb0) hl)
  have HK := hide hk0
  clear hps hP hg0 hs hw ht hk0 hb0
  go_enter Tryz.func244, Tryz.ntmps244
  go_wp2_with fail
  rw [← hw0]
  clear hw0
  refine HC.out.mono ?_
  rintro e w1 ⟨rfl, hk1, ht1⟩
  go_wp2
  go_ret
  exact ⟨rfl, HK.out.trans hk1, ht1⟩
set_option maxRecDepth 100000 in
set_option maxHeartbeats 1000000 in
theorem convexValid : Calls Tryz.prog 251 #[.agg #[.bool d, .int .i64 v, .slice A ps.length c], .pointer (tapeA t)] w fun e w' => e = .returned (.int .u64 (msk (validV ps))) ∧ KeepP P w w' ∧ Tp w' P t (es ++ vEv ps.length (List.range (edgeN ps.length))) := by
  obtain ⟨w0, hw0⟩ : ∃ w0, w0 = w.alloc (.cells #[.bool d, .int .i64 v, .slice A ps.length c] 204) := ⟨_, rfl⟩
  have hb0 : Below w.heap.size w w0 := by rw [hw0]; exact bl_alloc (Below.refl _ _) _
  have hk0 : KeepP P w w0 := KeepP.of_below hb0 hP
  have HC := hide (valid_any P t es ps hps hn A c w0 (fun k hk => Nat.lt_of_lt_of_le (hP k hk) hb0.size) hg0 (hs.kept hk0) (hw.step hb0) (ht.step hb0) hl)
  have HK := hide hk0
  clear hps hP hg0 hs hw ht hk0 hb0
  go_enter Tryz.func251, Tryz.ntmps251
  go_wp2_with fail
  rw [← hw0]
  clear hw0
  refine HC.out.mono ?_
  rintro e w1 ⟨rfl, hk1, ht1⟩
  go_wp2
  go_ret
  exact ⟨rfl, HK.out.trans hk1, ht1⟩
set_option maxRecDepth 100000 in
set_option maxHeartbeats 1000000 in
omit hn in
theorem roundLocate (p : Pt) (hp : PJ p) : Calls Tryz.prog 242 #[.agg #[.bool d, .int .i64 v, .slice A ps.length c], .pointer (tapeA t), .agg #[.int .i64 p.1, .int .i64 p.2]] w fun e w' => e = .returned (.int .i64 (discL ps p)) ∧ KeepP P w w' ∧ Tp w' P t (es ++ discLEv ps.length) := by
  obtain ⟨w0, hw0⟩ : ∃ w0, w0 = (w.alloc (.cells #[.bool d, .int .i64 v, .slice A ps.length c] 203)).alloc (.cells #[.int .i64 p.1, .int .i64 p.2] 69) := ⟨_, rfl⟩
  have hb0 : Below w.heap.size w w0 := by rw [hw0]; exact bl_alloc (bl_alloc (Below.refl _ _) _) _
  have hk0 : KeepP P w w0 := KeepP.of_below hb0 hP
  have HC := hide (discLocate_any P t es ps hps A c w0 (fun k hk => Nat.lt_of_lt_of_le (hP k hk) hb0.size) hg0 (hs.kept hk0) (hw.step hb0) (ht.step hb0) hl p hp)
  have HK := hide hk0
  clear hps hP hg0 hs hw ht hk0 hb0 hp
  go_enter Tryz.func242, Tryz.ntmps242
  go_wp2_with fail
  rw [← hw0]
  clear hw0
  refine HC.out.mono ?_
  rintro e w1 ⟨rfl, hk1, ht1⟩
  go_wp2
  go_ret
  exact ⟨rfl, HK.out.trans hk1, ht1⟩
set_option maxRecDepth 100000 in
set_option maxHeartbeats 1000000 in
theorem convexLocate (p : Pt) (hp : PJ p) : Calls Tryz.prog 249 #[.agg #[.bool d, .int .i64 v, .slice A ps.length c], .pointer (tapeA t), .agg #[.int .i64 p.1, .int .i64 p.2]] w fun e w' => e = .returned (.int .i64 (locV ps p)) ∧ KeepP P w w' ∧ Tp w' P t (es ++ locEv (List.range (edgeN ps.length))) := by
  obtain ⟨w0, hw0⟩ : ∃ w0, w0 = (w.alloc (.cells #[.bool d, .int .i64 v, .slice A ps.length c] 204)).alloc (.cells #[.int .i64 p.1, .int .i64 p.2] 69) := ⟨_, rfl⟩
  have hb0 : Below w.heap.size w w0 := by rw [hw0]; exact bl_alloc (bl_alloc (Below.refl _ _) _) _
  have hk0 : KeepP P w w0 := KeepP.of_below hb0 hP
  have HC := hide (locate_any P t es ps hps hn A c p hp w0 (fun k hk => Nat.lt_of_lt_of_le (hP k hk) hb0.size) hg0 (hs.kept hk0) (hw.step hb0) (ht.step hb0) hl)
  have HK := hide hk0
  clear hps hP hg0 hs hw ht hk0 hb0 hp
  go_enter Tryz.func249, Tryz.ntmps249
  go_wp2_with fail
  rw [← hw0]
  clear hw0
  refine HC.out.mono ?_
  rintro e w1 ⟨rfl, hk1, ht1⟩
  go_wp2
  go_ret
  exact ⟨rfl, HK.out.trans hk1, ht1⟩
end
/-- the points of the regions lie in blocks of P -/
def GsP (w : World) (P : Nat → Prop) (gs : List Gr) : Prop := ∀ g ∈ gs, g.1.n = g.2.length ∧ SlP w P g.1.A (ptCs g.2) ∧ PsJ g.2 ∧ g.2.length ≤ 10000
theorem GsP.kept {w w' : World} {P : Nat → Prop} {gs : List Gr} (h : GsP w P gs) (hk : KeepP P w w') : GsP w' P gs := fun g hg => ⟨(h g hg).1, (h g hg).2.1.kept hk, (h g hg).2.2⟩
/-- the events of Valid, from the region with number i on -/
def fvEv : Nat → List Gr → List Ev
  | _, [] => []
  | i, g :: gs => (7, (i : Int), 0) :: (rgVEv g.1.v g.2.length ++ fvEv (i + 1) gs)
theorem fvEv_snoc : ∀ (i : Nat) (l : List Gr) (g : Gr), fvEv i (l ++ [g]) = fvEv i l ++ ((7, ((i + l.length : Nat) : Int), 0) :: rgVEv g.1.v g.2.length)
  | i, [], g => by simp [fvEv]
  | i, x :: l, g => by
    have h := fvEv_snoc (i + 1) l g
    have e : i + 1 + l.length = i + (x :: l).length := by simp; omega
    rw [List.cons_append, fvEv, h, fvEv, e]
    simp
theorem fvEv_take {gs : List Gr} {k : Nat} {g : Gr} (h : gs[k]? = some g) : fvEv 0 (gs.take (k + 1)) = fvEv 0 (gs.take k) ++ ((7, (k : Int), 0) :: rgVEv g.1.v g.2.length) := by
  have hlt : k < gs.length := (List.getElem?_eq_some_iff.1 h).1
  rw [List.take_add_one, h]
  show fvEv 0 (gs.take k ++ [g]) = _
  rw [fvEv_snoc, List.length_take, Nat.min_eq_left (Nat.le_of_lt hlt), Nat.zero_add]
theorem fvEv_length : ∀ (i : Nat) (l : List Gr), (fvEv i l).length ≤ 4097 * l.length
  | i, [] => by simp [fvEv]
  | i, x :: l => by
    have h := fvEv_length (i + 1) l
    have h2 := rgVEv_length x.1.v x.2.length
    simp only [fvEv, List.length_cons, List.length_append]
    omega
def fvOk (gs : List Gr) : Bool := gs.foldl (fun b g => b && rgOk g.1.v g.2) true
theorem fvOk_take {gs : List Gr} {k : Nat} {g : Gr} (h : gs[k]? = some g) : fvOk (gs.take (k + 1)) = (fvOk (gs.take k) && rgOk g.1.v g.2) := by
  unfold fvOk
  rw [List.take_add_one, h]
  simp
/-- whether a fence is valid -/
def fenceOk (gs : List Gr) : Bool := decide (fcheck (gs.map (·.1)) = 0) && fvOk gs
def fenceVEv (gs : List Gr) : List Ev := if fcheck (gs.map (·.1)) = 0 then fvEv 0 gs else []
theorem of_true (w : World) : Calls Tryz.prog 153 #[.int .u64 1] w fun e w' => e = .returned (.int .u64 (msk true)) ∧ w = w' := by
  have h := of_any 1 (by omega) (by omega) w
  rw [show decide ((1 : Int) % 2 = 1) = true from by decide] at h
  exact h
set_option maxRecDepth 100000 in
set_option maxHeartbeats 4000000 in
theorem fenceValid_any (P : Nat → Prop) (t : Option (Nat × Nat)) (es : List Ev) (gs : List Gr) (GA : Option Addr) (gc : Nat) (w : World) (hP : ∀ k, P k → k < w.heap.size) (hg0 : P 1) (hs : SlP w P GA (rgCells (gs.map (·.1)))) (hgs : GsP w P gs) (hw : MW w) (ht : Tp w P t es) (hl : es.length ≤ 600000) :
    Calls Tryz.prog 118 #[.pointer (tapeA t), .slice GA gs.length gc] w fun e w' => e = .returned (.int .u64 (msk (fenceOk gs))) ∧ KeepP P w w' ∧ Tp w' P t (es ++ fenceVEv gs) := by
  have HC0 := fcheck_any (gs.map (·.1)) GA gc w (hs.sl hP)
  rw [List.length_map] at HC0
  have HC := hide HC0
  clear HC0
  by_cases hf : fcheck (gs.map (·.1)) = 0
  · have hf64 : gs.length ≤ 64 := by
      unfold fcheck at hf
      split at hf
      · omega
      · rename_i h; rw [List.length_map] at h; omega
    have e1 : fenceOk gs = fvOk gs := by unfold fenceOk; rw [decide_eq_true hf]; rfl
    have e2 : fenceVEv gs = fvEv 0 gs := by unfold fenceVEv; rw [if_pos hf]
    rw [e1, e2]
    rw [hf] at HC
    have HP := hide hP; have HG0 := hide hg0; have HS := hide hs; have HGS := hide hgs; have HW := hide hw; have HT := hide ht
    have HO := hide (fun w => of_true w)
    clear hf e1 e2 hP hg0 hs hgs hw ht
    go_enter Tryz.func118, Tryz.ntmps118
    go_wp2_with fail
    refine HC.out.mono ?_
    rintro e w1 ⟨rfl, hb1⟩
    have HB1 := hide hb1
    clear hb1 HC
    go_wp2_with fail
    refine (HO.out w1).mono ?_
    rintro e w2 ⟨rfl, rfl⟩
    go_wp2_with fail
    go_loopw [5, 14] (fun m i wr => ∃ k : Nat, k ≤ gs.length ∧ m = .int .u64 (msk (fvOk (gs.take k))) ∧ i = .int .i64 k ∧ KeepP P w wr ∧ Tp wr P t (es ++ fvEv 0 (gs.take k)))
      (fun _ i _ => gs.length - (intOf i).toNat)
    case atStart => exact ⟨0, Nat.zero_le _, rfl, rfl, KeepP.of_below HB1.out HP.out, by simpa [fvEv] using HT.out.step HB1.out⟩
    case round =>
      obtain ⟨k, hk, rfl, rfl, hkp, htp⟩ := hrel
      have hPr : ∀ j, P j → j < wr.heap.size := fun j hj => Nat.lt_of_lt_of_le (HP.out j hj) hkp.size
      by_cases hlt : k < gs.length
      · obtain ⟨g, hg⟩ : ∃ g, gs[k]? = some g := ⟨_, List.getElem?_eq_getElem hlt⟩
        obtain ⟨hgn, hps1, hps2, hpn⟩ := HGS.out g (List.mem_of_getElem? hg)
        have hr : (gs.map (·.1))[k]? = some g.1 := by rw [List.getElem?_map, hg]; rfl
        obtain ⟨b, off, rfl, hB, c0, c1, c2⟩ := ((HS.out.kept hkp).sl hPr).rg hr
        have HE := hide (fvEv_take hg)
        have HK := hide (fvOk_take hg)
        have hlti : ((k : Nat) : Int) < ((gs.length : Nat) : Int) := by omega
        obtain ⟨⟨d, v, A, n, c⟩, ps⟩ := g
        dsimp only at *
        subst hgn
        clear hg hr
        have HNEXT : Hid (∀ w8, KeepP P w w8 → Tp w8 P t (es ++ fvEv 0 (gs.take k) ++ [(7, (k : Int), 0)] ++ rgVEv v ps.length) → KeepP P w w8 ∧ Tp w8 P t (es ++ fvEv 0 (gs.take (k + 1)))) := hide fun w8 h1 h2 => ⟨h1, by
          rw [HE.out]
          rw [show es ++ (fvEv 0 (gs.take k) ++ ((7, (k : Int), 0) :: rgVEv v ps.length)) = es ++ fvEv 0 (gs.take k) ++ [(7, (k : Int), 0)] ++ rgVEv v ps.length by simp]
          exact h2⟩
        have hle0 : (es ++ fvEv 0 (gs.take k)).length ≤ 890000 := by
          have := fvEv_length 0 (gs.take k)
          rw [List.length_take] at this
          rw [List.length_append]; omega
        have hle : (es ++ fvEv 0 (gs.take k) ++ [(7, (k : Int), 0)]).length ≤ 900000 := by
          rw [List.length_append]; simp only [List.length_singleton]; omega
        obtain ⟨w3, hw3⟩ : ∃ w3, w3 = wr.alloc (.cells #[.bool d, .int .i64 v, .slice A ps.length c] 87) := ⟨_, rfl⟩
        have hb3 : Below wr.heap.size wr w3 := by rw [hw3]; exact bl_alloc (Below.refl _ _) _
        have B3 : Blk w3 wr.heap.size 87 #[.bool d, .int .i64 v, .slice A ps.length c] := by rw [hw3]; exact Blk.new _ _ _
        have HI : Hid (More P wr w3 wr.heap.size) := .inr ⟨Nat.le_refl _, B3.lt⟩
        have HNO := hide (note_any (More P wr w3) t (es ++ fvEv 0 (gs.take k)) 7 (k : Int) 0 w3 (more_lt hPr hb3) (htp.more hb3) (by omega) (by unfold I64w; omega))
        have HB3 := hide hb3; have HKP := hide hkp; have HPR := hide hPr
        clear HE hle0 hb3 htp hkp hPr hB
        go_wp2_with fail
        rw [← hw3]
        clear hw3
        refine HNO.out.mono ?_
        rintro e w4 ⟨rfl, hk4, _, ht4⟩
        have B4 := B3.kept hk4 HI.out
        have z0 : w4.cell? ⟨wr.heap.size, 0, none⟩ = some (.bool d) := B4.cell (i := 0) rfl
        have z1 : w4.cell? ⟨wr.heap.size, 1, none⟩ = some (.int .i64 v) := B4.cell (i := 1) rfl
        have z2 : w4.cell? ⟨wr.heap.size, 2, none⟩ = some (.slice A ps.length c) := B4.cell (i := 2) rfl
        have hk04 : KeepP P w w4 := HKP.out.trans (KeepP.more HB3.out HPR.out hk4)
        have ht5 := ht4.mono (R := P) fun k h => .inl h
        have hP4 : ∀ j, P j → j < w4.heap.size := fun j hj => Nat.lt_of_lt_of_le (HP.out j hj) hk04.size
        clear hk4 ht4 B3 B4 HNO HI HB3 HKP HPR c0 c1 c2
        by_cases hv : v = 0
        · have HOK : Hid (rgOk v ps = discOk ps) := hide (if_pos hv)
          have HEV : rgVEv v ps.length = discVEv ps.length := if_pos hv
          rw [HEV] at HNEXT
          rw [HOK.out] at HK
          subst hv
          clear HEV HOK
          go_wp2_with fail
          refine (shapeOf_zero d A ps.length c w4).mono ?_
          rintro e w5 ⟨rfl, hb5⟩
          have hk5 : KeepP P w w5 := hk04.trans (KeepP.of_below hb5 hP4)
          have HV := hide (roundValid P t (es ++ fvEv 0 (gs.take k) ++ [(7, (k : Int), 0)]) d 0 ps hps2 A c w5 (fun j hj => Nat.lt_of_lt_of_le (hP4 j hj) hb5.size) HG0.out (hps1.kept (hk5)) (HW.out.kept hk5 HG0.out) (ht5.step hb5) hle)
          clear hb5 hk04 hP4 ht5 z0 z1 z2
          have hmr := methV_round
          go_wp2_with fail
          refine HV.out.mono ?_
          rintro e w6 ⟨rfl, hk6, ht6⟩
          have hand := msk_and (fvOk (gs.take k)) (discOk ps)
          rw [← HK.out] at hand
          have HREL := hide (HNEXT.out w6 (hk5.trans hk6) ht6)
          clear hk5 hk6 ht6 HV hmr HNEXT
          go_wp2
          go_roundw
          case rel => exact ⟨k + 1, by omega, rfl, by go_num, HREL.out⟩
          case measure => simp [intOf]; omega
        · have HOK : Hid (rgOk v ps = validV ps) := hide (if_neg hv)
          have HEV : rgVEv v ps.length = vEv ps.length (List.range (edgeN ps.length)) := if_neg hv
          rw [HEV] at HNEXT
          rw [HOK.out] at HK
          clear HEV HOK
          go_wp2_with fail
          refine (shapeOf_other d v (by simpa using hv) A ps.length c w4).mono ?_
          rintro e w5 ⟨rfl, hb5⟩
          have hk5 : KeepP P w w5 := hk04.trans (KeepP.of_below hb5 hP4)
          have HV := hide (convexValid P t (es ++ fvEv 0 (gs.take k) ++ [(7, (k : Int), 0)]) d v ps hps2 hpn A c w5 (fun j hj => Nat.lt_of_lt_of_le (hP4 j hj) hb5.size) HG0.out (hps1.kept (hk5)) (HW.out.kept hk5 HG0.out) (ht5.step hb5) hle)
          clear hb5 hk04 hP4 ht5 z0 z1 z2
          have hmr := methV_convex
          go_wp2_with fail
          refine HV.out.mono ?_
          rintro e w6 ⟨rfl, hk6, ht6⟩
          have hand := msk_and (fvOk (gs.take k)) (validV ps)
          rw [← HK.out] at hand
          have HREL := hide (HNEXT.out w6 (hk5.trans hk6) ht6)
          clear hk5 hk6 ht6 HV hmr HNEXT
          go_wp2
          go_roundw
          case rel => exact ⟨k + 1, by omega, rfl, by go_num, HREL.out⟩
          case measure => simp [intOf]; omega
      · obtain rfl : k = gs.length := by omega
        rw [List.take_length] at htp ⊢
        go_wp2
        go_ret
        exact ⟨rfl, hkp, htp⟩
  · have e1 : fenceOk gs = false := by unfold fenceOk; rw [decide_eq_false hf]; rfl
    have e2 : fenceVEv gs = [] := by unfold fenceVEv; rw [if_neg hf]
    rw [e1, e2, List.append_nil]
    have HP := hide hP; have HT := hide ht
    obtain ⟨z, hz⟩ : ∃ z, z = fcheck (gs.map (·.1)) := ⟨_, rfl⟩
    rw [← hz] at HC hf
    clear e1 e2 hP hg0 hs hgs hw ht hz
    go_enter Tryz.func118, Tryz.ntmps118
    go_wp2_with fail
    refine HC.out.mono ?_
    rintro e w1 ⟨rfl, hb1⟩
    go_wp2
    go_ret
    exact ⟨rfl, KeepP.of_below hb1 HP.out, HT.out.step hb1⟩
end Go.Proofs.YtpnoofphfomjoaaGreatDoor
