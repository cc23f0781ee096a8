/- The reference's Read: the same answer or error. -/
import Derived.Test.YtcfbkabiapaobaaRead
import Derived.Test.YtcfbkabiapaobaaRefAnswer
import Derived.Test.YtcfbkabiapaobaaWordAt
import Derived.Test.YtcfbkabiapaobaaRefFormatAny
import Derived.Test.YtcfbkabiapaobaaRefResponse
import Derived.Deep.RegionLaw
import Derived.Deep.AppendLies
namespace Go.Proofs.Ytcfbkabiapaobaa
open Go.RowKit

theorem readOut_drew {r : Ans × Int} {w w' : World} {e : Ending} (h : ReadOut r w e w') : ReadOut r w e w'.drew := by
  obtain ⟨A, c, h1, h2, h3⟩ := h
  exact ⟨A, c, h1, bl_drew h2, h3⟩
/-- the answer's block while its records grow -/
def AR (w : World) (P : Nat → Prop) (ab : Nat) (x cnt : Int) (v : Value) (rs : List (Int × Int)) : Prop :=
  Blk w ab 45 #[.int .i64 x, .int .i64 cnt, v] ∧ w.ownsRow 0 83 2 v rs.length (recCs rs) ∧ v.ownBlock ≠ some ab ∧ ∀ k, v.ownBlock = some k → ¬ P k
theorem ar_push {wr wa w1 : World} {P : Nat → Prop} {ab g' cap n : Nat} {x cnt : Int} {v : Value} {rs : List (Int × Int)} {r : Int × Int} {xs : List Value} (hP : ∀ k, P k → k < wr.heap.size) (h : AR wr P ab x cnt v rs) (hab : ¬ P ab) (hb : Below wr.heap.size wr wa)
    (hown1 : w1.ownsRow 0 83 2 (.slice (some ⟨g', 0, none⟩) n cap) n xs) (hn : n = (rs ++ [r]).length) (hx : xs = recCs (rs ++ [r])) (hgrow : wa.grownBy w1 v.ownBlock) (hat : v.ownBlock = some g' ∨ g' = wa.heap.size) :
    AR (w1.setCell ⟨ab, 2, none⟩ (.slice (some ⟨g', 0, none⟩) n cap)) P ab x cnt (.slice (some ⟨g', 0, none⟩) n cap) (rs ++ [r]) ∧ KeepP P wr (w1.setCell ⟨ab, 2, none⟩ (.slice (some ⟨g', 0, none⟩) n cap)) := by
  subst hn hx
  obtain ⟨hblk, hown, hne, hvP⟩ := h
  have hgl : ab < wa.heap.size := Nat.lt_of_lt_of_le hblk.lt hb.size
  have hgg : some g' ≠ some ab := by
    rcases hat with h | h
    · rw [← h]; exact hne
    · intro e; injection e with e; omega
  have hvP' : ¬ P g' := by
    rcases hat with h | h
    · exact hvP g' h
    · intro hp; have := hP g' hp; have := hb.size; omega
  refine ⟨⟨?_, own_set hown1 (by simpa [Value.ownBlock] using hgg) _, by simpa [Value.ownBlock] using hgg, fun k hk => by
    have : g' = k := by simpa [Value.ownBlock] using hk
    subst this; exact hvP'⟩, ?_⟩
  · exact ((hblk.step hb).grown hgrow (fun e => hne e.symm)).set 2 (.slice (some ⟨g', 0, none⟩) (rs ++ [r]).length cap)
  · have h1 : KeepP P wr w1 := ⟨hgrow.os.trans hb.os, hgrow.tape.trans hb.tape, hgrow.output.trans hb.output, Nat.le_trans hb.size hgrow.size, fun k hk =>
      (hgrow.block k (Nat.lt_of_lt_of_le (hP k hk) hb.size) (fun e => hvP k e.symm hk)).trans (hb.block k (hP k hk))⟩
    exact h1.trans (KeepP.set hab _ _ _)
theorem recCs_snoc (rs : List (Int × Int)) (r : Int × Int) : recCs (rs ++ [r]) = recCs rs ++ [.int .u64 r.1, .int .u64 r.2] := by simp [recCs]

section
variable (op vs pts : Int) (hrs : List Rg) (HA : Option Addr) (hc : Nat) (bs : List Int) (BA : Option Addr) (bc : Nat) (w : World)
variable (hh : Sl w w.heap.size HA (rgCells hrs)) (hs : Sl w w.heap.size BA (byCells bs)) (hbc : bs.length ≤ bc) (hbl : bs.length ≤ 100000) (hby : By bs)
include hh hs hbc hbl hby
set_option maxRecDepth 1000000 in
set_option maxHeartbeats 4000000 in
theorem rread_any : Calls Try.prog 12 #[.agg #[.int .i64 op, .int .i64 vs, .slice HA hrs.length hc, .int .i64 pts], .slice BA bs.length bc] w (ReadOut (hread op vs hrs pts bs) w) := by
  have HH := hide hh; clear hh
  have HS := hide hs; clear hs
  have HBY := hide hby; clear hby
  obtain ⟨w0, hw0⟩ : ∃ w0, w0 = (w.alloc (.cells #[.int .i64 op, .int .i64 vs, .slice HA hrs.length hc, .int .i64 pts] 24)).alloc (.cells #[.int .i64 0, .int .i64 0, .slice none 0 0] 45) := ⟨_, rfl⟩
  have hb0 : Below w.heap.size w w0 := by rw [hw0]; exact bl_alloc (bl_alloc (Below.refl _ _) _) _
  have hz0 : w0.heap.size = w.heap.size + 2 := by rw [hw0]; simp
  have B0 : Blk w0 w.heap.size 24 #[.int .i64 op, .int .i64 vs, .slice HA hrs.length hc, .int .i64 pts] := by rw [hw0]; exact (Blk.new _ _ _).alloc _
  have R0 : Blk w0 (w.heap.size + 1) 45 #[.int .i64 0, .int .i64 0, .slice none 0 0] := by rw [hw0]; exact Blk.new2 _ _ _ _
  have HZ0 := hide hz0; clear hz0
  have b00 := B0.cell (i := 0) rfl
  have b01 := B0.cell (i := 1) rfl
  have b02 := B0.cell (i := 2) rfl
  have b03 := B0.cell (i := 3) rfl
  have hF := rformat_any op vs pts hrs HA hc w0 ((HH.out.below hb0).more hb0.size)
  by_cases he : hcheck op vs hrs pts = 0
  · have hf2 : hformat op vs hrs pts = (fbytes op vs hrs pts, 0) := by unfold hformat; rw [if_pos he]
    rw [hf2] at hF
    have HF := hide hF; clear hF hf2
    have HR : Hid (hread op vs hrs pts bs = if bs.length = 1 then (ansZero, if 4 ≤ bs.getD 0 0 ∧ bs.getD 0 0 ≤ 8 then bs.getD 0 0 else 10)
        else if (bs.length : Int) ≠ hresp op vs hrs pts then (ansZero, 8)
        else if bs.getD 0 0 ≠ 0 then (ansZero, 10)
        else if isAns op pts (rdAns op pts bs).val (rdAns op pts bs).cnt (rdAns op pts bs).recs = false then (ansZero, 10)
        else (rdAns op pts bs, 0)) := by
      apply hide; unfold hread; rw [if_neg (by simpa using he)]
    obtain ⟨ho1, ho2, x1, x2, x3, x4, hp5, hpn, x5⟩ := hcheck_zero he
    clear x1 x2 x3 x4 x5
    have hrq : hresp op vs hrs pts = if op = 5 then 4 + pts * 9 else 2 := by unfold hresp; rw [if_pos he]
    have HRQ := hide hrq
    have HE := hide he; clear he hrq
    have HP5 := hide hp5; have HPN := hide hpn
    clear hp5 hpn
    by_cases h1 : bs.length = 1
    · obtain ⟨x, rfl⟩ : ∃ x, bs = [x] := by
        match bs, h1 with
        | [x], _ => exact ⟨x, rfl⟩
      obtain ⟨b, off, rfl, hb, hcell⟩ := HS.out.by_ (by simp)
      have c0 := hcell 0 x rfl
      rw [Nat.add_zero] at c0
      have HX := hide (HBY.out x (by simp))
      obtain ⟨hx0, hx1⟩ := HX.out
      clear hcell h1 HS HBY hbl
      simp only [List.length_cons, List.length_nil, List.getD_cons_zero, if_true, Nat.zero_add] at HR ⊢ hbc
      have hbw : b < w0.heap.size := by have := HZ0.out; omega
      go_enter Try.func12, Try.ntmps12
      go_wp2_with fail
      rw [← hw0]
      have HW0 := hide hw0; clear hw0
      refine HF.out.mono ?_
      rintro e w1 ⟨v, rfl, hv1, hb1⟩
      have R1 := R0.step hb1
      have r0 := R1.cell (i := 0) rfl
      have r1 := R1.cell (i := 1) rfl
      have r2 := R1.cell (i := 2) rfl
      have f0 := R1.frozen 0
      have f1 := R1.frozen 1
      have f2 := R1.frozen 2
      have HBw := bl_step hb0 hb1
      have c1 := (HBw.cell (p := ⟨b, off, none⟩) hb).trans c0
      clear c0
      by_cases hx : 4 ≤ x ∧ x ≤ 8
      · obtain ⟨hx2, hx3⟩ := hx
        go_wp2
        go_region
        all_goals go_wp2
        all_goals
          obtain ⟨e0, e1, e2, _⟩ := res3 R1 (u1 := .int .i64 0) (u2 := .int .i64 0) (u3 := .slice none 0 0)
          exact bodyPost_ret (v := .tuple #[.agg #[.int .i64 0, .int .i64 0, .slice none 0 0], .int .i64 x]) (by simp [results, Try.results12, go_sem, e0, e1, e2]) rfl (readOut_drew (readOut_zero HBw (by rw [HR.out, if_pos ⟨by omega, by omega⟩])))
      · have hxx : x < 4 ∨ 8 < x := by omega
        rcases hxx with hxx | hxx
        all_goals
          go_wp2
          obtain ⟨e0, e1, e2, _⟩ := res3 R1 (u1 := .int .i64 0) (u2 := .int .i64 0) (u3 := .slice none 0 0)
          exact bodyPost_ret (v := .tuple #[.agg #[.int .i64 0, .int .i64 0, .slice none 0 0], .int .i64 10]) (by simp [results, Try.results12, go_sem, e0, e1, e2]) rfl (readOut_zero HBw (by rw [HR.out, if_neg (by omega)]))
    · have h1' : ((bs.length : Int) == 1) = false := by simp; omega
      have HR1 : Hid (hread op vs hrs pts bs = if (bs.length : Int) ≠ hresp op vs hrs pts then (ansZero, 8)
        else if bs.getD 0 0 ≠ 0 then (ansZero, 10)
        else if isAns op pts (rdAns op pts bs).val (rdAns op pts bs).cnt (rdAns op pts bs).recs = false then (ansZero, 10)
        else (rdAns op pts bs, 0)) := by apply hide; rw [HR.out, if_neg h1]
      have H1 := hide h1; clear h1 HR
      go_enter Try.func12, Try.ntmps12
      go_wp2_with fail
      rw [← hw0]
      have HW0 := hide hw0; clear hw0
      refine HF.out.mono ?_
      rintro e w1 ⟨v, rfl, hv1, hb1⟩
      have R1 := R0.step hb1
      have B1 := B0.step hb1
      have HBw := bl_step hb0 hb1
      have b10 := B1.cell (i := 0) rfl
      have b11 := B1.cell (i := 1) rfl
      have b12 := B1.cell (i := 2) rfl
      have b13 := B1.cell (i := 3) rfl
      clear b00 b01 b02 b03
      go_wp2_with fail
      refine (rresponse_any op vs pts hrs HA hc w1 HE.out).mono ?_
      rintro e w2 ⟨rfl, hb2⟩
      have R2 := R1.step hb2
      have B2 := B1.step hb2
      have HB2 := bl_step HBw hb2
      clear b10 b11 b12 b13
      obtain ⟨Q, hQ⟩ : ∃ Q, hresp op vs hrs pts = Q := ⟨_, rfl⟩
      rw [hQ]
      have HQ := hide hQ; clear hQ
      by_cases hlen : (bs.length : Int) = Q
      · have HLEN := hide hlen
        have hd0 : Hid (hread op vs hrs pts bs = if bs.getD 0 0 ≠ 0 then (ansZero, 10)
            else if isAns op pts (rdAns op pts bs).val (rdAns op pts bs).cnt (rdAns op pts bs).recs = false then (ansZero, 10)
            else (rdAns op pts bs, 0)) := by apply hide; rw [HR1.out, HQ.out, if_neg (by simpa using hlen)]
        have hq := HRQ.out
        rw [HQ.out] at hq
        have hlen2 : 2 ≤ bs.length := by
          by_cases h5 : op = 5
          · have := HP5.out h5; rw [if_pos h5] at hq; omega
          · rw [if_neg h5] at hq; omega
        have HQQ := hide hq
        clear hq HR1
        subst hlen
        obtain ⟨s, x, t, rfl⟩ : ∃ s x t, bs = s :: x :: t := by
          match bs, hlen2 with
          | s :: x :: t, _ => exact ⟨s, x, t, rfl⟩
        obtain ⟨hs0, hs1⟩ := HBY.out s (by simp)
        obtain ⟨hx0, hx1⟩ := HBY.out x (by simp)
        have HBT : Hid (By t) := hide HBY.out.tail.tail
        have htl : t.length ≤ 100000 := by simp at hbl; omega
        obtain ⟨b, off, rfl, hb, hcell⟩ := (HS.out.below HB2).by_ (by simp)
        have hbw : b < w2.heap.size := Nat.lt_of_lt_of_le hb HB2.size
        have c0 := hcell 0 s rfl
        rw [Nat.add_zero] at c0
        have c1 := hcell 1 x rfl
        have HCELL := hide hcell
        clear hcell
        obtain ⟨w3, hw3⟩ : ∃ w3, w3 = w2.alloc (.cells #[.int .i64 x, .int .i64 0, .slice none 0 0] 45) := ⟨_, rfl⟩
        have hb3 : Below w2.heap.size w2 w3 := by rw [hw3]; exact bl_alloc (Below.refl _ _) _
        have A3 : Blk w3 w2.heap.size 45 #[.int .i64 x, .int .i64 0, .slice none 0 0] := by rw [hw3]; exact Blk.new _ _ _
        have hz3 : w3.heap.size = w2.heap.size + 1 := by rw [hw3]; simp
        have HZ3 := hide hz3; clear hz3
        have B3 := B2.step hb3
        have R3 := R2.step hb3
        have HB3 := bl_step HB2 hb3
        have hBl := B2.lt
        have hRl := R2.lt
        have q0 := B2.cell (i := 0) rfl
        have q1 := B2.cell (i := 1) rfl
        have q2 := B2.cell (i := 2) rfl
        have q3 := B2.cell (i := 3) rfl
        by_cases h5 : op = 5
        · subst h5
          obtain ⟨hp1, hp2⟩ := HP5.out rfl
          obtain ⟨n, rfl⟩ : ∃ n : Nat, pts = (n : Int) := Int.eq_ofNat_of_zero_le (by omega)
          have htn : t.length = 2 + 9 * n := by
            have := HQQ.out; rw [if_pos rfl] at this; simp at this; omega
          obtain ⟨lo, hi, t2, rfl⟩ : ∃ lo hi t2, t = lo :: hi :: t2 := by
            match t, htn with
            | lo :: hi :: t2, _ => exact ⟨lo, hi, t2, rfl⟩
            | [], h => simp at h; omega
            | [_], h => simp at h; omega
          obtain ⟨hl0, hl1⟩ := HBT.out lo (by simp)
          obtain ⟨hh0, hh1⟩ := HBT.out hi (by simp)
          have HT2 : Hid (By t2) := hide HBT.out.tail.tail
          have ht2 : t2.length = 9 * n := by simp at htn; omega
          have c2 := HCELL.out 2 lo rfl
          have c3 := HCELL.out 3 hi rfl
          have hmc : (256 : Int) * hi = hi * 256 := Int.mul_comm _ _
          have hra : Hid (rdAns 5 n (s :: x :: lo :: hi :: t2) = ⟨x, lo + hi * 256, recsOf t2 n⟩) := by apply hide; unfold rdAns; rw [if_pos rfl, if_pos rfl]; rfl
          have HD0 : Hid (hread 5 vs hrs n (s :: x :: lo :: hi :: t2) = if s ≠ 0 then (ansZero, 10) else if isAns 5 n x (lo + hi * 256) (recsOf t2 n) = false then (ansZero, 10) else (⟨x, lo + hi * 256, recsOf t2 n⟩, 0)) := by
            apply hide; rw [hd0.out, hra.out]; rfl
          have HHT := hide ht2
          have hn4 : n ≤ 4096 := by omega
          have hlong : (s :: x :: lo :: hi :: t2).length = 4 + 9 * n := by simp; omega
          have HLONG := hide hlong
          clear htn htl hbl ht2
          have a1 := A3.cell (i := 1) rfl
          have g1 := A3.frozen 1
          have hnl : (4 + 9 * n : Nat) ≤ bc := by rw [← hlong]; exact hbc
          rw [hlong]
          clear hlong
          go_wp2
          go_region
          obtain ⟨w4, hw4⟩ : ∃ w4, w4 = (w2.alloc (.cells #[.int .i64 x, .int .i64 (lo + hi * 256), .slice none 0 0] 45)).drew := ⟨_, rfl⟩
          rw [← hw4]
          have hb4 : Below w2.heap.size w2 w4 := by rw [hw4]; exact bl_drew (bl_alloc (Below.refl _ _) _)
          have AR4 : AR w4 (LtP w2.heap.size) w2.heap.size x (lo + hi * 256) (.slice none 0 0) [] := by
            rw [hw4]
            exact ⟨(Blk.new _ _ _).drew, World.ownsRow_nil _ _ _ _, by simp [Value.ownBlock], by simp [Value.ownBlock]⟩
          have hz4 : w4.heap.size = w2.heap.size + 1 := by rw [hw4]; simp
          have HW4 := hide hw4; clear hw4
          have B4 := B2.step hb4
          have R4 := R2.step hb4
          have HB4 := bl_step HB2 hb4
          have hPR : LtP w2.heap.size (w.heap.size + 1) := R2.lt
          have hPB : LtP w2.heap.size w.heap.size := B2.lt
          have hPb : LtP w2.heap.size b := hbw
          have hLT : ∀ k, k < w.heap.size → LtP w2.heap.size k := fun k hk => Nat.lt_of_lt_of_le hk HB2.size
          have hP4 : ∀ k, LtP w2.heap.size k → k < w4.heap.size := fun k hk => by unfold LtP at hk; omega
          have HLT := hide hLT; have HP4 := hide hP4; have HZ4 := hide hz4
          have HNA : Hid (¬ LtP w2.heap.size w2.heap.size) := hide (by unfold LtP; omega)
          clear hLT hP4 hz4 c0 c1 c2 c3 q0 q1 q2 q3 a1 g1 hmc
          have q3 := B4.cell (i := 3) rfl
          go_wp2
          go_loopw [9] (fun i wr => ∃ (k : Nat) (v : Value), k ≤ n ∧ i = .int .i64 k ∧ KeepP (LtP w2.heap.size) w4 wr ∧ AR wr (LtP w2.heap.size) w2.heap.size x (lo + hi * 256) v ((recsOf t2 n).take k))
            (fun i _ => n - (intOf i).toNat)
          case atStart => exact ⟨0, _, by omega, rfl, KeepP.refl _ _, AR4⟩
          case round =>
            obtain ⟨k, v, hk, rfl, hkp, har⟩ := hrel
            clear q3
            have q3 := (B4.kept hkp hPB).cell (i := 3) rfl
            have HBr : Below w.heap.size w wr := HB4.trans (hkp.below HLT.out)
            have HAR := hide har
            obtain ⟨hblk, hown, hne, hvP⟩ := har
            have HVP := hide hvP; clear hvP
            by_cases hlt : k < n
            · obtain ⟨cl, hcl⟩ : ∃ cl, cl = (recAt t2 k).1 := ⟨_, rfl⟩
              have hi9 : 9 * k < t2.length := by rw [HHT.out]; omega
              have hget : (s :: x :: lo :: hi :: t2)[4 + 9 * k]? = some cl := by
                rw [hcl, show 4 + 9 * k = 9 * k + 4 by omega]
                simp only [List.getElem?_cons_succ]
                rw [List.getElem?_eq_getElem hi9]
                simp [recAt, hi9]
              have hcl01 : 0 ≤ cl ∧ cl ≤ 255 := HBY.out cl (List.mem_of_getElem? hget)
              obtain ⟨hcl0, hcl1⟩ := hcl01
              have cb := (hkp.cell hPb _).trans ((hb4.cell (p := ⟨b, _, none⟩) hbw).trans (HCELL.out _ _ hget))
              have hw8 : ((s :: x :: lo :: hi :: t2).drop (5 + 9 * k)).take 8 = (t2.drop (9 * k + 1)).take 8 := by
                rw [show 5 + 9 * k = (9 * k + 1) + 4 by omega]; rfl
              have HWC : ∀ wk, KeepP (LtP w2.heap.size) wr wk → Calls Try.prog 35 #[.slice (some ⟨b, off, none⟩) (4 + 9 * n) bc, .int .i64 (5 + 9 * (k : Int))] wk fun e w' => e = .returned (.int .u64 (recAt t2 k).2) ∧ wk = w' := by
                intro wk hwk
                have W := wordAt_any (s :: x :: lo :: hi :: t2) (some ⟨b, off, none⟩) bc w.heap.size wk (((HS.out.below HB4).kept hkp HLT.out).kept hwk HLT.out) HBY.out (by rw [HLONG.out]; omega) (5 + 9 * k) (by rw [HLONG.out]; omega)
                rw [HLONG.out, hw8, show ((5 + 9 * k : Nat) : Int) = 5 + 9 * (k : Int) by omega] at W
                exact W
              have HWCH := hide HWC
              obtain ⟨id8, hid8⟩ : ∃ id8, (recAt t2 k).2 = id8 := ⟨_, rfl⟩
              rw [hid8] at HWCH
              have hts : (recsOf t2 n).take (k + 1) = (recsOf t2 n).take k ++ [(cl, id8)] := by
                rw [List.take_add_one, recsOf_get t2 hlt, hcl, ← hid8]; rfl
              have hlk : ((recsOf t2 n).take k).length = k := by rw [List.length_take, recsOf_length]; omega
              generalize (recsOf t2 n).take k = rk at hown HAR hts hlk
              have HTS := hide hts; clear hts
              have HLK := hide hlk
              have HCL := hide hcl; have HID := hide hid8
              clear HWC hw8 hget hcl hid8 hlk
              have ab2 := hblk.cell (i := 2) rfl
              have af2 := hblk.frozen 2
              have hal := hblk.lt
              have hbr : b < wr.heap.size := cell_lt cb
              obtain ⟨i0, hi, hi0, hi1, hi2⟩ := info_parts rec_info
              have hkn : (4 + 9 * (k : Int)) < (4 + 9 * (n : Int)) := by omega
              have hk9 : (0 : Int) ≤ 4 + 9 * (k : Int) := by omega
              have hto : (4 + 9 * (k : Int)).toNat = 4 + 9 * k := by omega
              have hw1 : IntKind.i64.wrap (9 * (k : Int)) = 9 * (k : Int) := by rw [IntKind.wrap_i64]; omega
              have hw2 : IntKind.i64.wrap (4 + 9 * (k : Int)) = 4 + 9 * (k : Int) := by rw [IntKind.wrap_i64]; omega
              have hw4 : IntKind.u64.wrap cl = cl := by rw [IntKind.wrap_u64]; omega
              have hw3 : IntKind.i64.wrap (5 + 9 * (k : Int)) = 5 + 9 * (k : Int) := by rw [IntKind.wrap_i64]; omega
              go_wp2
              go_region_law (first
                | (refine step_append_lies _ (by rfl) (.tmp 70) (.tmp 84) 40 (by rfl) 0 83 i0 (.agg #[.int .u64 0, .int .u64 0]) 2 16 Try.underlying40 hi hi0 hi1 hi2 (by rfl) (by decide) v _ _ (by rfl) (own_step hown (bl_drew (bl_alloc (Below.refl _ _) _))) ⟨wr.heap.size, 0, none⟩ 1 1 [.int .u64 cl, .int .u64 id8] (by rfl) (by rfl) (blk_cells (Blk.new _ _ _).drew) (by simp [Value.oneCell']) (by omega) (by rw [HLK.out]; unfold maxLen; omega) (by rw [HLK.out]; omega) (by omega) (wr.heap.size + 1) (by simp) ?_; intro g' cap w1 hown1 hgrow hat hlt'; have c1 := (World.grownBy.cell_far hgrow ⟨w2.heap.size, 2, none⟩ (by simp; omega) (Ne.symm hne)).trans (((bl_drew (bl_alloc (Below.refl _ _) _) : Below wr.heap.size wr _).cell (p := ⟨w2.heap.size, 2, none⟩) hal).trans ab2); have f1 := (World.grownBy.frozen_far hgrow ⟨w2.heap.size, 2, none⟩ (by simp; omega) (Ne.symm hne)).trans (((bl_drew (bl_alloc (Below.refl _ _) _) : Below wr.heap.size wr _).frozen (p := ⟨w2.heap.size, 2, none⟩) hal).trans af2))
                | (go_simp; go_at_call 35; refine (HWCH.out _ (KeepP.drew _ _)).mono ?_; rintro e w' ⟨rfl, rfl⟩))
              all_goals
                obtain ⟨p1, p2⟩ := ar_push (fun j hj => Nat.lt_of_lt_of_le (HP4.out j hj) hkp.size) HAR.out HNA.out (bl_drew (bl_alloc (Below.refl _ _) _)) hown1 (r := (cl, id8)) (by simp) (by rw [recCs_snoc]) hgrow (by simpa using hat)
                go_wp2
                go_roundw
                case rel => exact ⟨k + 1, _, by omega, by go_num, hkp.trans p2, by rw [HTS.out]; exact p1⟩
                case measure => simp [intOf]; omega
            · obtain rfl : n = k := by omega
              clear HAR
              rw [List.take_of_length_le (by rw [recsOf_length]; exact Nat.le_refl _)] at hown
              obtain ⟨VA, vc, rfl, _⟩ := own_slice hown
              have hsl : Sl wr wr.heap.size VA (recCs (recsOf t2 n)) := Sl.of_own hown
              rw [recsOf_length] at hblk
              have hTR : ∀ y, VA = some y → y.block ≠ w.heap.size + 1 := fun y hy e => HVP.out y.block (by rw [hy]; rfl) (by rw [e]; exact hPR)
              have HTR := hide hTR; have HSL := hide hsl
              clear hTR hsl hown hne
              have s0 := hblk.cell (i := 0) rfl
              have s1 := hblk.cell (i := 1) rfl
              have s2 := hblk.cell (i := 2) rfl
              have p0 := (B4.kept hkp hPB).cell (i := 0) rfl
              have p1 := (B4.kept hkp hPB).cell (i := 1) rfl
              have p2 := (B4.kept hkp hPB).cell (i := 2) rfl
              have cs0 := (hkp.cell hPb _).trans ((hb4.cell (p := ⟨b, _, none⟩) hbw).trans (HCELL.out 0 s rfl))
              rw [Nat.add_zero] at cs0
              have RK := R4.kept hkp hPR
              have hn0 : (0 : Int) < 4 + 9 * (n : Int) := by omega
              by_cases hst : s = 0
              · subst hst
                have IA := ris_at vs n x (lo + hi * 256) HA VA hrs.length hc vc (recsOf t2 n) wr HSL.out (by rw [recsOf_length]; unfold maxLen; omega) (by omega) (by omega) 5 (by omega) 1 rfl rfl
                rw [recsOf_length, show ((5 : Nat) : Int) = 5 from rfl] at IA
                have HIAC := hide IA; clear IA
                go_wp2_with fail
                refine HIAC.out.mono ?_
                rintro e w10 ⟨rfl, hb10⟩
                have HB10 := bl_step HBr hb10
                have A10 := hblk.step hb10
                have R10 := RK.step hb10
                obtain ⟨ia, hia⟩ : ∃ ia, isAns 5 n x (lo + hi * 256) (recsOf t2 n) = ia := ⟨_, rfl⟩
                rw [hia]
                have HIA := hide hia; clear hia s0 s1 s2 p0 p1 p2 q3 cs0
                have s0 := A10.cell (i := 0) rfl
                have s1 := A10.cell (i := 1) rfl
                have s2 := A10.cell (i := 2) rfl
                have r0 := R10.cell (i := 0) rfl
                have r1 := R10.cell (i := 1) rfl
                have r2 := R10.cell (i := 2) rfl
                have f0 := R10.frozen 0
                have f1 := R10.frozen 1
                have f2 := R10.frozen 2
                cases ia
                · go_wp2
                  obtain ⟨e0, e1, e2, _⟩ := res3 R10 (u1 := .int .i64 0) (u2 := .int .i64 0) (u3 := .slice none 0 0)
                  exact bodyPost_ret (v := .tuple #[.agg #[.int .i64 0, .int .i64 0, .slice none 0 0], .int .i64 10]) (by simp [results, Try.results12, go_sem, e0, e1, e2]) rfl (readOut_zero HB10 (by rw [HD0.out, if_neg (by simp), HIA.out, if_pos rfl]))
                · go_wp2
                  obtain ⟨e0, e1, e2, _⟩ := res3 R10 (u1 := .int .i64 x) (u2 := .int .i64 (lo + hi * 256)) (u3 := .slice VA n vc)
                  have RO := readOut_some (r := hread 5 vs hrs n (0 :: x :: lo :: hi :: t2)) (u0 := .int .i64 x) (u1 := .int .i64 (lo + hi * 256)) (u2 := .slice VA n vc) (a := ⟨x, lo + hi * 256, recsOf t2 n⟩) (c := vc) HB10 (by rw [HD0.out, if_neg (by simp), HIA.out, if_neg (by simp)]) ((HSL.out.below hb10).more hb10.size) HTR.out
                  rw [recsOf_length] at RO
                  exact bodyPost_ret (v := .tuple #[.agg #[.int .i64 x, .int .i64 (lo + hi * 256), .slice VA n vc], .int .i64 0]) (by simp [results, Try.results12, go_sem, e0, e1, e2]) rfl RO
              · have hst' : (s != 0) = true := by simpa using hst
                have HST := hide hst; clear hst
                have r0 := RK.cell (i := 0) rfl
                have r1 := RK.cell (i := 1) rfl
                have r2 := RK.cell (i := 2) rfl
                have f0 := RK.frozen 0
                have f1 := RK.frozen 1
                have f2 := RK.frozen 2
                go_wp2
                obtain ⟨e0, e1, e2, _⟩ := res3 RK (u1 := .int .i64 0) (u2 := .int .i64 0) (u3 := .slice none 0 0)
                exact bodyPost_ret (v := .tuple #[.agg #[.int .i64 0, .int .i64 0, .slice none 0 0], .int .i64 10]) (by simp [results, Try.results12, go_sem, e0, e1, e2]) rfl (readOut_zero HBr (by rw [HD0.out, if_pos HST.out]))
        · have h5' : (op == 5) = false := by simpa using h5
          have hpts := HPN.out h5
          subst hpts
          have ht : t = [] := by
            have := HQQ.out; rw [if_neg h5] at this
            exact List.eq_nil_of_length_eq_zero (by simp at this; omega)
          subst ht
          have hra : Hid (rdAns op 0 [s, x] = ⟨x, 0, []⟩) := by apply hide; unfold rdAns; rw [if_neg h5, if_neg h5]; rfl
          have HD0 : Hid (hread op vs hrs 0 [s, x] = if s ≠ 0 then (ansZero, 10) else if isAns op 0 x 0 [] = false then (ansZero, 10) else (⟨x, 0, []⟩, 0)) := by
            apply hide; rw [hd0.out, hra.out]; rfl
          obtain ⟨m, hm⟩ : ∃ m : Nat, op = (m : Int) := Int.eq_ofNat_of_zero_le (by omega)
          have hm4 : m = 1 ∨ m = 2 ∨ m = 3 ∨ m = 4 := by omega
          have hM : ∃ M, (#[Value.int .i64 0, .int .i64 2, .int .i64 2, .int .i64 3, .int .i64 2, .int .i64 1] : Array Value)[m]? = some (.int .i64 M) ∧ most (m : Int) = M := by
            rcases hm4 with rfl | rfl | rfl | rfl <;> exact ⟨_, rfl, rfl⟩
          obtain ⟨M, hM1, hM2⟩ := hM
          have HM1 := hide hM1; have HM2 := hide hM2
          have HM6 : Hid (m < 6) := hide (by omega)
          have hA3l := A3.lt
          have a0 := A3.cell (i := 0) rfl
          have a1 := A3.cell (i := 1) rfl
          have a2 := A3.cell (i := 2) rfl
          have IAC := ris_at vs 0 x 0 HA none hrs.length hc 0 [] w3 (Sl.nil _ _ _) (by simp [maxLen]) (by omega) (by omega) m HM6.out M HM1.out HM2.out
          rw [← hm] at IAC
          have HIAC := hide IAC
          clear hM1 hM2 h5 hm4 IAC hm
          by_cases hst : s = 0
          · subst hst
            go_wp2_with fail
            rw [← hw3]
            have HW3 := hide hw3; clear hw3
            refine HIAC.out.mono ?_
            rintro e w7 ⟨rfl, hb7⟩
            have HB7 := bl_step HB3 hb7
            have A7 := A3.step hb7
            have R7 := R3.step hb7
            obtain ⟨ia, hia⟩ : ∃ ia, isAns op 0 x 0 [] = ia := ⟨_, rfl⟩
            rw [hia]
            have HIA := hide hia; clear hia a0 a1 a2
            have a0 := A7.cell (i := 0) rfl
            have a1 := A7.cell (i := 1) rfl
            have a2 := A7.cell (i := 2) rfl
            have r0 := R7.cell (i := 0) rfl
            have r1 := R7.cell (i := 1) rfl
            have r2 := R7.cell (i := 2) rfl
            have f0 := R7.frozen 0
            have f1 := R7.frozen 1
            have f2 := R7.frozen 2
            cases ia
            · go_wp2
              obtain ⟨e0, e1, e2, _⟩ := res3 R7 (u1 := .int .i64 0) (u2 := .int .i64 0) (u3 := .slice none 0 0)
              exact bodyPost_ret (v := .tuple #[.agg #[.int .i64 0, .int .i64 0, .slice none 0 0], .int .i64 10]) (by simp [results, Try.results12, go_sem, e0, e1, e2]) rfl (readOut_zero HB7 (by rw [HD0.out, if_neg (by simp), HIA.out, if_pos rfl]))
            · go_wp2
              obtain ⟨e0, e1, e2, _⟩ := res3 R7 (u1 := .int .i64 x) (u2 := .int .i64 0) (u3 := .slice none 0 0)
              exact bodyPost_ret (v := .tuple #[.agg #[.int .i64 x, .int .i64 0, .slice none 0 0], .int .i64 0]) (by simp [results, Try.results12, go_sem, e0, e1, e2]) rfl (readOut_some (a := ⟨x, 0, []⟩) HB7 (by rw [HD0.out, if_neg (by simp), HIA.out, if_neg (by simp)]) (Sl.nil _ _ _) (by simp))
          · have hst' : (s != 0) = true := by simpa using hst
            have HST := hide hst; clear hst
            have r0 := R2.cell (i := 0) rfl
            have r1 := R2.cell (i := 1) rfl
            have r2 := R2.cell (i := 2) rfl
            have f0 := R2.frozen 0
            have f1 := R2.frozen 1
            have f2 := R2.frozen 2
            go_wp2
            obtain ⟨e0, e1, e2, _⟩ := res3 R2 (u1 := .int .i64 0) (u2 := .int .i64 0) (u3 := .slice none 0 0)
            exact bodyPost_ret (v := .tuple #[.agg #[.int .i64 0, .int .i64 0, .slice none 0 0], .int .i64 10]) (by simp [results, Try.results12, go_sem, e0, e1, e2, hRl]) rfl (readOut_zero' HB2 (by rw [HD0.out, if_pos HST.out]))
      · have hlen' : ((bs.length : Int) != Q) = true := by simpa using hlen
        have HL := hide hlen; clear hlen
        have r0 := R2.cell (i := 0) rfl
        have r1 := R2.cell (i := 1) rfl
        have r2 := R2.cell (i := 2) rfl
        have f0 := R2.frozen 0
        have f1 := R2.frozen 1
        have f2 := R2.frozen 2
        go_wp2
        obtain ⟨e0, e1, e2, _⟩ := res3 R2 (u1 := .int .i64 0) (u2 := .int .i64 0) (u3 := .slice none 0 0)
        exact bodyPost_ret (v := .tuple #[.agg #[.int .i64 0, .int .i64 0, .slice none 0 0], .int .i64 8]) (by simp [results, Try.results12, go_sem, e0, e1, e2]) rfl (readOut_zero HB2 (by rw [HR1.out, HQ.out, if_pos HL.out]))
  · have hf2 : hformat op vs hrs pts = ([], hcheck op vs hrs pts) := by unfold hformat; rw [if_neg he]
    rw [hf2] at hF
    have HF := hide hF; clear hF hf2
    have HR : Hid (hread op vs hrs pts bs = (ansZero, hcheck op vs hrs pts)) := by apply hide; unfold hread; rw [if_pos he]
    have he' : (hcheck op vs hrs pts != 0) = true := by rw [bne_iff_ne]; exact he
    have HE := hide he; clear he
    go_enter Try.func12, Try.ntmps12
    go_wp2_with fail
    rw [← hw0]
    have HW0 := hide hw0; clear hw0
    refine HF.out.mono ?_
    rintro e w1 ⟨v, rfl, hv1, hb1⟩
    have R1 := R0.step hb1
    have r0 := R1.cell (i := 0) rfl
    have r1 := R1.cell (i := 1) rfl
    have r2 := R1.cell (i := 2) rfl
    have f0 := R1.frozen 0
    have f1 := R1.frozen 1
    have f2 := R1.frozen 2
    have HBw := bl_step hb0 hb1
    obtain ⟨ec, hec⟩ : ∃ ec, hcheck op vs hrs pts = ec := ⟨_, rfl⟩
    rw [hec] at he' ⊢
    have HEC := hide hec; clear hec
    go_wp2
    obtain ⟨e0, e1, e2, _⟩ := res3 R1 (u1 := .int .i64 0) (u2 := .int .i64 0) (u3 := .slice none 0 0)
    exact bodyPost_ret (v := .tuple #[.agg #[.int .i64 0, .int .i64 0, .slice none 0 0], .int .i64 ec]) (by simp [results, Try.results12, go_sem, e0, e1, e2]) rfl (readOut_zero HBw (by rw [HR.out, HEC.out]))
end
end Go.Proofs.Ytcfbkabiapaobaa
