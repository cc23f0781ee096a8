/- CodecIsCanonical: the law's function returns true. -/
import Derived.Test.YtcfbkabiapaobaaDoorLawRound18
import Derived.Test.YtcfbkabiapaobaaDoorRefFormatAny
import Derived.Test.YtcfbkabiapaobaaDoorBytes
namespace Go.Proofs.YtcfbkabiapaobaaDoor
open Go.RowKit

/-- the payload that the law makes: the given bytes, then those of the index -/
def payByte (P : List Int) (i : Nat) : Int := if i < P.length then P.getD i 0 else (i : Int) % 256
def payOf (P : List Int) (n : Nat) : List Int := (List.range n).map (payByte P)
theorem payOf_length (P : List Int) (n : Nat) : (payOf P n).length = n := by simp [payOf]
theorem payOf_succ (P : List Int) (n : Nat) : payOf P (n + 1) = payOf P n ++ [payByte P n] := by simp [payOf, List.range_succ]
theorem payOf_by {P : List Int} (h : By P) (n : Nat) : By (payOf P n) := fun x hx => by
  obtain ⟨i, _, rfl⟩ := List.mem_map.1 hx
  unfold payByte
  by_cases hi : i < P.length
  · rw [if_pos hi, List.getD_eq_getElem?_getD, List.getElem?_eq_getElem hi]; exact h _ (List.getElem_mem hi)
  · rw [if_neg hi]; omega
theorem fbytes_by {op vs pts : Int} {rs : List Rg} (h : hcheck op vs rs pts = 0) : By (fbytes op vs rs pts) := fun x hx => by
  obtain ⟨j, hj⟩ := List.getElem?_of_mem hx
  exact fbytes_byte h j x hj
theorem hpay_eq {op vs pts : Int} {rs : List Rg} (h : hcheck op vs rs pts = 0) : hpay op vs rs pts = 16 * (nSum rs : Int) + 16 * cntP op vs + 24 * cntQ op pts := by
  obtain ⟨h1, h2, h3, h4, h5, h6, h7, h8, _⟩ := hcheck_zero h
  unfold hpay
  rw [if_pos h, ← nSum_cast]
  have e1 : cntP op vs = fixedOf op + vs := by
    unfold cntP fixedOf
    by_cases a1 : op = 1
    · have := h4 (by omega); rw [if_pos a1, if_pos a1]; omega
    · by_cases a2 : op = 2
      · have := h4 (by omega); rw [if_neg a1, if_pos a2, if_neg a1, if_pos a2]; omega
      · by_cases a3 : op = 3
        · rw [if_neg a1, if_neg a2, if_pos a3, if_neg a1, if_neg a2, if_neg (by omega)]; omega
        · have := h4 a3
          by_cases a4 : op = 4
          · rw [if_neg a1, if_neg a2, if_neg a3, if_pos a4, if_neg a1, if_neg a2, if_neg (by omega)]; omega
          · rw [if_neg a1, if_neg a2, if_neg a3, if_neg a4, if_neg a1, if_neg a2, if_pos (by omega)]; omega
  have e2 : cntQ op pts = pts := by
    unfold cntQ
    by_cases a : op = 1 ∨ op = 2 ∨ op = 3 ∨ op = 4
    · rw [if_pos a]; have := h8 (by omega); omega
    · rw [if_neg a]
  rw [e1, e2]; omega

section
variable (op vs pts : Int) (hrs : List Rg) (HA : Option Addr) (hc : Nat) (pl : List Int) (PL : Option Addr) (plc : Nat) (w : World)
variable (hh : Sl w w.heap.size HA (rgCells hrs)) (hp : Sl w w.heap.size PL (byCells pl)) (hby : By pl) (hpm : pl.length ≤ maxLen)
variable (hfix : Fixed w) (hfg : 0 < w.heap.size)
include hh hp hby hpm hfix hfg
set_option maxRecDepth 1000000 in
set_option maxHeartbeats 4000000 in
theorem lawCanon18 : Calls Tryd.prog 5 #[.agg #[.int .i64 op, .int .i64 vs, .slice HA hrs.length hc, .int .i64 pts], .slice PL pl.length plc] w fun e w' => e = .returned (.bool true) ∧ Below w.heap.size w w' := by
  unfold maxLen at hpm
  obtain ⟨w0, hw0⟩ : ∃ w0, w0 = w.alloc (.cells #[.int .i64 op, .int .i64 vs, .slice HA hrs.length hc, .int .i64 pts] 26) := ⟨_, rfl⟩
  have hb0 : Below w.heap.size w w0 := by rw [hw0]; exact bl_alloc (Below.refl _ _) _
  have B0 : Blk w0 w.heap.size 26 #[.int .i64 op, .int .i64 vs, .slice HA hrs.length hc, .int .i64 pts] := by rw [hw0]; exact Blk.new _ _ _
  have F := rformat_any op vs pts hrs HA hc w0 ((hh.below hb0).more hb0.size)
  have FX : ∀ w', Below w.heap.size w w' → Fixed w' ∧ 0 < w'.heap.size := fun w' hb => ⟨hfix.below hb hfg, Nat.lt_of_lt_of_le hfg hb.size⟩
  have HFX := hide FX; have HH := hide hh; have HP := hide hp; have HBY := hide hby
  clear FX hh hp hby hfix hfg
  have b0 := B0.cell (i := 0) rfl
  have b1 := B0.cell (i := 1) rfl
  have b2 := B0.cell (i := 2) rfl
  have b3 := B0.cell (i := 3) rfl
  by_cases hcz : hcheck op vs hrs pts = 0
  · have hf : hformat op vs hrs pts = (fbytes op vs hrs pts, 0) := by unfold hformat; rw [if_pos hcz]
    rw [hf] at F
    have HF := hide F
    have RP : ∀ w', Below w.heap.size w w' → Calls Tryd.prog 13 #[.agg #[.int .i64 op, .int .i64 vs, .slice HA hrs.length hc, .int .i64 pts]] w' fun e w'' => e = .returned (.int .i64 (hpay op vs hrs pts)) ∧ Below w'.heap.size w' w'' := fun w' hb => rpayload_any op vs pts hrs HA hc w' ((HH.out.below hb).more hb.size) hcz
    have hpb := hpay_bd op vs hrs pts
    have hpe := hpay_eq hcz
    obtain ⟨n, hn⟩ := Int.eq_ofNat_of_zero_le hpb.1
    rw [hn] at RP hpe hpb
    have hfl := fbytes_le op vs hrs pts
    have hfby := fbytes_by hcz
    have hl64 := (cnt_bd hcz).2.2.1
    have HRP := hide RP; have HCZ := hide hcz; have HFBY := hide hfby; have HPE := hide hpe
    have HDEC : Hid (hdecode (fbytes op vs hrs pts ++ payOf pl n) = (rqOf ⟨op, vs, hrs.map rgBack, pts⟩ (payOf pl n), 0)) := hide (hdecode_of hcz (by rw [payOf_length]; exact hpe))
    have hcan : ∀ (hrs' : List Rg) (gs' : List Gr), hrs'.map Rg.key = (hrs.map rgBack).map Rg.key → gs'.map gdOf = regsOf (hrs.map rgBack) (payOf pl n) → (∀ g ∈ gs', g.1.n = g.2.length) →
        hencode op vs hrs' pts gs' (rqOf ⟨op, vs, hrs.map rgBack, pts⟩ (payOf pl n)).ps (rqOf ⟨op, vs, hrs.map rgBack, pts⟩ (payOf pl n)).qs = (fbytes op vs hrs pts ++ payOf pl n, 0) :=
      fun hrs' gs' e1 e2 e3 => hencode_canon hcz (by rw [payOf_length]; exact hpe) (payOf_by HBY.out n) e1 e2 e3
    have HCAN := hide hcan
    clear hf F RP hcz hfby hpe hn hcan
    generalize hFB : fbytes op vs hrs pts = fb at *
    have HFB := hide hFB; clear hFB
    go_enter Tryd.func5, Tryd.ntmps5
    go_wp2_with fail
    rw [← hw0]
    have HW0 := hide hw0; clear hw0
    refine HF.out.mono ?_
    rintro e w1 ⟨v, rfl, hv, hb1⟩
    dsimp only at hv ⊢
    have HB1 := bl_step hb0 hb1
    have B1 := B0.step hb1
    have HV := hide hv
    clear b0 b1 b2 b3 hv HF
    have b0 := B1.cell (i := 0) rfl
    have b1 := B1.cell (i := 1) rfl
    have b2 := B1.cell (i := 2) rfl
    have b3 := B1.cell (i := 3) rfl
    have P1 := hide (HRP.out w1 HB1)
    clear HRP
    go_wp2_with fail
    refine P1.out.mono ?_
    rintro e w2 ⟨rfl, hb2⟩
    have HB2 := bl_step HB1 hb2
    have hv2 := own_step HV.out hb2
    have HV2 := hide hv2
    clear b0 b1 b2 b3 HV hv2 P1
    by_cases hbig : 50000 < n
    · have hbig' : (50000 : Int) < (n : Int) := by omega
      go_wp2_with fail
      refine (alive18 w2).mono ?_
      rintro e w5 ⟨rfl, hb5⟩
      go_wp2
      go_ret
      exact ⟨rfl, bl_step HB2 hb5⟩
    · have hsm : (n : Int) ≤ 50000 := by omega
      have h02 : Below w0.heap.size w0 w2 := bl_step hb1 hb2
      have h0z := hb0.size
      go_wp2
      go_loopw [5, 28] (fun u i wr => ∃ k : Nat, k ≤ n ∧ i = .int .i64 k ∧ Below w0.heap.size w0 wr ∧ wr.ownsRow w0.heap.size 5 1 u (fb.length + k) (byCells (fb ++ payOf pl k)))
        (fun _ i _ => n - (intOf i).toNat)
      case atStart => exact ⟨0, by omega, rfl, h02, by simpa [payOf] using HV2.out⟩
      case round =>
        obtain ⟨k, hk, rfl, hbr, hown⟩ := hrel
        have hwz := hbr.size
        have HBr := bl_step hb0 hbr
        by_cases hlt : k < n
        · obtain ⟨i0, hi, hz0, hz1, hz2⟩ := info_parts u8_info
          obtain ⟨x, hx⟩ : ∃ x, x = payByte pl k := ⟨_, rfl⟩
          have HSN : Hid (payOf pl (k + 1) = payOf pl k ++ [x]) := by apply hide; rw [hx]; exact payOf_succ pl k
          have hkn : (k : Int) < (n : Int) := by omega
          have hk0 : (0 : Int) ≤ (k : Int) := by omega
          by_cases hin : k < pl.length
          · have hget : pl[k]? = some x := by rw [hx]; unfold payByte; rw [if_pos hin, List.getD_eq_getElem?_getD, List.getElem?_eq_getElem hin]; rfl
            obtain ⟨pb, poff, rfl, hpb, hcell⟩ := (HP.out.below HBr).by_ (by omega)
            have c0 := hcell k x hget
            have hin' : (k : Int) < (pl.length : Int) := by omega
            have HX := hide hx; have HC := hide hcell
            clear hx hcell hget
            go_wp2_with (at_builtin; refine wpList_append_own _ rfl (.tmp 41) (.tmp 43) 22 rfl w0.heap.size 5 i0 (.int .u8 0) 1 1 Tryd.underlying22 hi hz0 hz1 hz2 rfl (by decide) _ (fb.length + k) (byCells (fb ++ payOf pl k)) rfl (hown.alloc _) ⟨wr.heap.size, 0, none⟩ 1 1 (byCells [x]) rfl rfl ?d1 ?d2 ?d3 ?d4 ?d5 ?_)
            case d1 => exact blk_cells (Blk.new _ _ _)
            case d2 => exact byCells_one _
            case d3 => unfold maxLen; omega
            case d4 => omega
            case d5 => simp; omega
            intro v3 w3 hown3 hgrow3 _
            have hb3 : Below w0.heap.size w0 w3 := (hbr.alloc (by omega) _).grown hgrow3 (by simp; omega) (fun k hk => own_base hown hk)
            have hown4 : w3.ownsRow w0.heap.size 5 1 v3 (fb.length + (k + 1)) (byCells (fb ++ payOf pl (k + 1))) := by
              rw [HSN.out]; simpa [byCells, Nat.add_assoc] using hown3
            have HO := hide hown4
            clear hown3 hown4 hgrow3
            go_wp2
            go_roundw
            case rel => exact ⟨k + 1, by omega, by go_num, hb3, HO.out⟩
            case measure => simp [intOf]; omega
          · have hxv : x = (k : Int) % 256 := by rw [hx]; unfold payByte; rw [if_neg hin]
            have hin' : ¬ (k : Int) < (pl.length : Int) := by omega
            have HXV := hide hxv
            clear hx hxv
            go_wp2_with (at_builtin; refine wpList_append_own _ rfl (.tmp 41) (.tmp 43) 22 rfl w0.heap.size 5 i0 (.int .u8 0) 1 1 Tryd.underlying22 hi hz0 hz1 hz2 rfl (by decide) _ (fb.length + k) (byCells (fb ++ payOf pl k)) rfl (hown.alloc _) ⟨wr.heap.size, 0, none⟩ 1 1 (byCells [(k : Int) % 256]) rfl rfl ?d1 ?d2 ?d3 ?d4 ?d5 ?_)
            case d1 => exact fun _ _ h => h
            case d2 => exact byCells_one _
            case d3 => unfold maxLen; omega
            case d4 => omega
            case d5 => omega
            intro v3 w3 hown3 hgrow3 _
            have hb3 : Below w0.heap.size w0 w3 := (hbr.alloc (by omega) _).grown hgrow3 (by simp; omega) (fun k hk => own_base hown hk)
            have hown4 : w3.ownsRow w0.heap.size 5 1 v3 (fb.length + (k + 1)) (byCells (fb ++ payOf pl (k + 1))) := by
              rw [HSN.out, HXV.out]; simpa [byCells, Nat.add_assoc] using hown3
            have HO := hide hown4
            clear hown3 hown4 hgrow3
            go_wp2
            go_roundw
            case rel => exact ⟨k + 1, by omega, by go_num, hb3, HO.out⟩
            case measure => simp [intOf]; omega
        · obtain rfl : n = k := by omega
          obtain ⟨VA, vc, rfl, hvc⟩ := own_slice hown
          have hlen : (fb ++ payOf pl n).length = fb.length + n := by rw [List.length_append, payOf_length]
          have hsl : Sl wr wr.heap.size VA (byCells (fb ++ payOf pl n)) := Sl.of_own hown
          have D := decode_any (fb ++ payOf pl n) VA vc wr hsl (by omega) (HFBY.out.append (payOf_by HBY.out n)) (by omega) (HFX.out wr HBr).1 (HFX.out wr HBr).2
          rw [HDEC.out, hlen] at D
          have HD := hide D; have HLEN := hide hlen; have HSL := hide hsl
          clear D hlen hsl hown HV2 HDEC
          go_wp2_with fail
          refine HD.out.mono ?_
          rintro e w3 ⟨hrs', HA', hc', gs', GA', gc', PA', pc', QA', qc', rfl, hb3, hr3⟩
          clear HD
          have hcan := HCAN.out hrs' gs' hr3.hk hr3.gd (fun g hg => (hr3.gk g hg).1)
          have hl' : hrs'.length ≤ maxLen := by have := len_key hr3.hk; dsimp only [rqOf] at this; rw [List.length_map] at this; unfold maxLen; omega
          generalize hPS : (rqOf ⟨op, vs, hrs.map rgBack, pts⟩ (payOf pl n)).ps = ps at *
          generalize hQS : (rqOf ⟨op, vs, hrs.map rgBack, pts⟩ (payOf pl n)).qs = qs at *
          have HR3 := hide hr3; have HPS := hide hPS; have HQS := hide hQS; have HCANR := hide hcan; have HL := hide hl'
          clear hr3 hPS hQS hcan hl' HCAN
          have hval : rqVal (rqOf ⟨op, vs, hrs.map rgBack, pts⟩ (payOf pl n)) hrs' HA' hc' gs' GA' gc' PA' pc' QA' qc' = .agg #[.int .i64 op, .int .i64 vs, .slice HA' hrs'.length hc', .int .i64 pts, .slice GA' gs'.length gc', .slice PA' ps.length pc', .slice QA' qs.length qc'] := by
            unfold rqVal; rw [HPS.out, HQS.out]; rfl
          rw [hval]
          clear hval
          dsimp only
          obtain ⟨w4, hw4⟩ : ∃ w4, w4 = w3.alloc (.cells #[.int .i64 op, .int .i64 vs, .slice HA' hrs'.length hc', .int .i64 pts, .slice GA' gs'.length gc', .slice PA' ps.length pc', .slice QA' qs.length qc'] 30) := ⟨_, rfl⟩
          have hb4 : Below w3.heap.size w3 w4 := by rw [hw4]; exact bl_alloc (Below.refl _ _) _
          have b34 : ReadsRq w4 w4.heap.size (rqOf ⟨op, vs, hrs.map rgBack, pts⟩ (payOf pl n)) hrs' HA' gs' GA' PA' QA' := (HR3.out.below hb4).more hb4.size
          have E := encode_any op vs pts hrs' HA' hc' gs' GA' gc' ps PA' pc' qs QA' qc' w4 b34.hh b34.hg b34.gk (by have := b34.hp; rw [HPS.out] at this; exact this) (by have := b34.hq; rw [HQS.out] at this; exact this) HL.out
          rw [HCANR.out] at E
          have HE := hide E
          clear E b34
          have HB4 := bl_step (bl_step HBr hb3) hb4
          go_wp2_with fail
          rw [← hw4]
          have HW4 := hide hw4; clear hw4
          refine HE.out.mono ?_
          rintro e w5 ⟨v5, rfl, hv5, hb5⟩
          clear HE
          dsimp only at hv5 ⊢
          obtain ⟨CA, cc, rfl, _⟩ := own_slice hv5
          have hs5 : Sl w5 w5.heap.size CA (byCells (fb ++ payOf pl n)) := Sl.of_own hv5
          have HS5 := hide hs5
          rw [HLEN.out]
          clear hv5 hs5
          go_wp2_with fail
          refine (alive18 w5).mono ?_
          rintro e w6 ⟨rfl, hb6⟩
          have b36 : Below wr.heap.size wr w6 := bl_step (bl_step (bl_step hb3 hb4) hb5) hb6
          have EQ := equal_true (fb ++ payOf pl n) VA CA vc cc w6 ((HSL.out.below b36).more b36.size) ((HS5.out.below hb6).more hb6.size)
          rw [HLEN.out] at EQ
          have HEQ := hide EQ
          clear EQ
          go_wp2_with fail
          refine HEQ.out.mono ?_
          rintro e w7 ⟨rfl, rfl⟩
          go_wp2
          go_ret
          exact ⟨rfl, bl_step (bl_step HB4 hb5) hb6⟩
  · have hf : hformat op vs hrs pts = ([], hcheck op vs hrs pts) := by unfold hformat; rw [if_neg hcz]
    rw [hf] at F
    have HF := hide F
    obtain ⟨er, her⟩ : ∃ er, hcheck op vs hrs pts = er := ⟨_, rfl⟩
    rw [her] at HF
    have hne : (er != 0) = true := by rw [← her]; simpa using hcz
    clear hf F hcz her
    go_enter Tryd.func5, Tryd.ntmps5
    go_wp2_with fail
    rw [← hw0]
    have HW0 := hide hw0; clear hw0
    refine HF.out.mono ?_
    rintro e w1 ⟨v, rfl, hv, hb1⟩
    clear HF
    go_wp2_with fail
    refine (alive18 w1).mono ?_
    rintro e w5 ⟨rfl, hb5⟩
    go_wp2
    go_ret
    exact ⟨rfl, bl_step (bl_step hb0 hb1) hb5⟩
end
end Go.Proofs.YtcfbkabiapaobaaDoor
