/- CodecResponds: the law's function returns true. -/
import Derived.Test.YtcfbkabiapaobaaAlive18
import Derived.Test.YtcfbkabiapaobaaRefRespond
import Derived.Test.YtcfbkabiapaobaaRespMath
import Derived.Test.YtcfbkabiapaobaaSame13
namespace Go.Proofs.Ytcfbkabiapaobaa
open Go.RowKit

section
variable (op vs pts : Int) (hrs : List Rg) (HA : Option Addr) (hc : Nat) (val cnt : Int) (recs : List (Int × Int)) (RA : Option Addr) (rc : Nat) (w : World)
variable (hh : Sl w w.heap.size HA (rgCells hrs)) (hn : hrs.length ≤ maxLen) (hs : Sl w w.heap.size RA (recCs recs)) (hrn : recs.length ≤ maxLen) (hru : ∀ r ∈ recs, U64 r.1 ∧ U64 r.2)
include hh hn hs hrn hru
set_option maxRecDepth 1000000 in
set_option maxHeartbeats 4000000 in
theorem lawResponds : Calls Try.prog 5 #[.agg #[.int .i64 op, .int .i64 vs, .slice HA hrs.length hc, .int .i64 pts], .agg #[.int .i64 val, .int .i64 cnt, .slice RA recs.length rc]] w fun e w' => e = .returned (.bool true) ∧ Below w.heap.size w w' := by
  have hhl0 : hrs.length ≤ 9223372036854775807 := by unfold maxLen at hn; omega
  have hrl0 : recs.length ≤ 9223372036854775807 := by unfold maxLen at hrn; omega
  have HH := hide hh; have HN := hide hn; have HS := hide hs; have HRN := hide hrn; have HRU := hide hru
  clear hh hn hs hrn hru
  by_cases h200 : 200 < hrs.length
  · go_enter Try.func5, Try.ntmps5
    go_wp2_with fail
    refine (alive18 _).mono ?_
    rintro e w1 ⟨rfl, hb1⟩
    go_wp2
    go_ret
    exact ⟨rfl, bl_step (bl_alloc (bl_alloc (Below.refl _ _) _) _) hb1⟩
  by_cases h5 : 5000 < recs.length
  · go_enter Try.func5, Try.ntmps5
    go_wp2_with fail
    refine (alive18 _).mono ?_
    rintro e w1 ⟨rfl, hb1⟩
    go_wp2
    go_ret
    exact ⟨rfl, bl_step (bl_alloc (bl_alloc (Below.refl _ _) _) _) hb1⟩
  · obtain ⟨w0, hw0⟩ : ∃ w0, w0 = (w.alloc (.cells #[.int .i64 op, .int .i64 vs, .slice HA hrs.length hc, .int .i64 pts] 24)).alloc (.cells #[.int .i64 val, .int .i64 cnt, .slice RA recs.length rc] 50) := ⟨_, rfl⟩
    have hb0 : Below w.heap.size w w0 := by rw [hw0]; exact bl_alloc (bl_alloc (Below.refl _ _) _) _
    have B0 : Blk w0 w.heap.size 24 #[.int .i64 op, .int .i64 vs, .slice HA hrs.length hc, .int .i64 pts] := by rw [hw0]; exact (Blk.new _ _ _).alloc _
    have A0 : Blk w0 (w.heap.size + 1) 50 #[.int .i64 val, .int .i64 cnt, .slice RA recs.length rc] := by rw [hw0]; exact Blk.new2 _ _ _ _
    have R1 := respond_any op vs pts hrs HA hc val cnt recs RA rc w0 ((HH.out.below hb0).more hb0.size) HN.out ((HS.out.below hb0).more hb0.size) HRN.out
    obtain ⟨r, hr⟩ : ∃ r, hrespond op vs hrs pts val cnt recs = r := ⟨_, rfl⟩
    have HR := hide hr
    rw [hr] at R1
    obtain ⟨bsr, er⟩ := r
    have HR1 := hide R1
    clear R1 hr
    go_enter Try.func5, Try.ntmps5
    go_wp2_with fail
    rw [← hw0]
    have HW0 := hide hw0; clear hw0
    refine HR1.out.mono ?_
    rintro e w1 ⟨v, rfl, hv, hb1⟩
    dsimp only at hv ⊢
    obtain ⟨VA, vc, rfl, hvc⟩ := own_slice hv
    have HB1 := bl_step hb0 hb1
    have B1 := B0.step hb1
    have A1 := A0.step hb1
    have HSV : Hid (Sl w1 w1.heap.size VA (byCells bsr)) := hide (Sl.of_own hv)
    clear hv
    have b0 := B1.cell (i := 0) rfl
    have b1 := B1.cell (i := 1) rfl
    have b2 := B1.cell (i := 2) rfl
    have b3 := B1.cell (i := 3) rfl
    have a0 := A1.cell (i := 0) rfl
    have a1 := A1.cell (i := 1) rfl
    have a2 := A1.cell (i := 2) rfl
    go_wp2_with fail
    have R2 := rrespond_any op vs pts hrs HA hc val cnt recs RA rc w1 ((HH.out.below HB1).more HB1.size) ((HS.out.below HB1).more HB1.size) HRN.out HRU.out
    rw [HR.out] at R2
    refine R2.mono ?_
    clear R2
    rintro e w2 ⟨v, rfl, hv, hb2⟩
    dsimp only at hv ⊢
    obtain ⟨UA, uc, rfl, huc⟩ := own_slice hv
    have HB2 := bl_step HB1 hb2
    have B2 := B1.step hb2
    have A2 := A1.step hb2
    have hU : Sl w2 w2.heap.size UA (byCells bsr) := Sl.of_own hv
    have hV : Sl w2 w2.heap.size VA (byCells bsr) := (HSV.out.below hb2).more hb2.size
    have HEQ := hide (equal_true bsr VA UA vc uc w2 hV hU)
    have HSV2 := hide hV
    clear hv hU hV b0 b1 b2 b3 a0 a1 a2
    have b0 := B2.cell (i := 0) rfl
    have b1 := B2.cell (i := 1) rfl
    have b2 := B2.cell (i := 2) rfl
    have b3 := B2.cell (i := 3) rfl
    go_wp2_with fail
    refine HEQ.out.mono ?_
    rintro e w3 ⟨rfl, rfl⟩
    by_cases he : er = 0
    · subst he
      have hz : hcheck op vs hrs pts = 0 := by
        have h := HR.out
        unfold hrespond at h
        by_cases hz : hcheck op vs hrs pts = 0
        · exact hz
        · rw [if_pos hz] at h; injection h with _ h2
      have hi : isAns op pts val cnt recs = true := by
        have h := HR.out
        unfold hrespond at h
        rw [if_neg (by simpa using hz)] at h
        cases hia : isAns op pts val cnt recs with
        | true => rfl
        | false => rw [hia, if_pos rfl] at h; injection h with _ h2; omega
      have hbs : bsr = ansBytes op val cnt recs := by
        have h := HR.out
        unfold hrespond at h
        rw [if_neg (by simpa using hz), if_neg (by simp [hi])] at h
        injection h with h1 _
        exact h1.symm
      obtain ⟨hq1, hq2, _, _, _, _, hp5, hpn, _⟩ := hcheck_zero hz
      have hp0 : 0 ≤ pts ∧ pts ≤ 4096 := by
        by_cases h5 : op = 5
        · have := hp5 h5; omega
        · have := hpn h5; omega
      obtain ⟨hv0, hv3, hrl, hc0, hc1, _⟩ := isAns_true hi hp0.1
      have hRD := read_respond hz hi fun r hr => (HRU.out r hr).2
      have hlen := ansBytes_len op val cnt recs
      rw [← hbs] at hRD hlen
      have hbl : bsr.length ≤ 100000 := by rw [hlen]; split <;> omega
      have hby : By bsr := by rw [hbs]; exact ansBytes_by hv0 hv3 hc0 (by omega)
      have R3 := read_any op vs pts hrs HA hc bsr VA vc w2 ((HH.out.below HB2).more HB2.size) HN.out HSV2.out hvc hbl hby
      rw [hRD] at R3
      have HR3 := hide R3
      clear R3 hRD hlen hby hbs hi hz hp5 hpn hp0
      go_wp2_with fail
      refine HR3.out.mono ?_
      rintro e w3 ⟨XA, xc, rfl, hb3, hsx⟩
      dsimp only at hsx ⊢
      have HB3 := bl_step HB2 hb3
      have A3 := A2.step hb3
      have HSX := hide hsx
      clear hsx b0 b1 b2 b3
      go_wp2_with fail
      obtain ⟨w4, hw4⟩ : ∃ w4, w4 = w3.alloc (.cells #[.int .i64 val, .int .i64 cnt, .slice XA recs.length xc] 42) := ⟨_, rfl⟩
      rw [← hw4]
      have hb4 : Below w3.heap.size w3 w4 := by rw [hw4]; exact bl_alloc (Below.refl _ _) _
      have X4 : Blk w4 w3.heap.size 42 #[.int .i64 val, .int .i64 cnt, .slice XA recs.length xc] := by rw [hw4]; exact Blk.new _ _ _
      have HW4 := hide hw4; clear hw4
      have A4 := A3.step hb4
      have HB4 := bl_step HB3 hb4
      refine (alive18 w4).mono ?_
      rintro e w5 ⟨rfl, hb5⟩
      have X5 := X4.step hb5
      have A5 := A4.step hb5
      have HB5 := bl_step HB4 hb5
      have x0 := X5.cell (i := 0) rfl
      have x1 := X5.cell (i := 1) rfl
      have x2 := X5.cell (i := 2) rfl
      have a0 := A5.cell (i := 0) rfl
      have a1 := A5.cell (i := 1) rfl
      have a2 := A5.cell (i := 2) rfl
      have hX : Sl w5 w5.heap.size XA (recCs recs) := ((HSX.out.below hb4).below (hb5.mono hb4.size)).more (Nat.le_trans hb4.size hb5.size)
      have hY : Sl w5 w5.heap.size RA (recCs recs) := (HS.out.below HB5).more HB5.size
      have HSA := hide (same13_true recs XA RA xc rc w5 hX hY HRN.out)
      clear hX hY
      go_wp2_with fail
      refine HSA.out.mono ?_
      rintro e w6 ⟨rfl, hb6⟩
      go_wp2
      go_ret
      exact ⟨rfl, bl_step HB5 hb6⟩
    · have he' : (er != 0) = true := by rw [bne_iff_ne]; exact he
      have HE := hide he; clear he
      go_wp2_with fail
      refine (alive18 _).mono ?_
      rintro e w4 ⟨rfl, hb4⟩
      go_wp2
      go_ret
      exact ⟨rfl, bl_step HB2 hb4⟩
end
end Go.Proofs.Ytcfbkabiapaobaa
