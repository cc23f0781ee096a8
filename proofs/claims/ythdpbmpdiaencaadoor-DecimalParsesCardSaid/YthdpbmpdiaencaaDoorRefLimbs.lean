/- The reference's limbs of a number. -/
import Derived.Test.YthdpbmpdiaencaaDoorRefDigits
import Derived.Deep.CutBlock
import Derived.Deep.RegionLaw
namespace Go.Proofs.YthdpbmpdiaencaaDoor
open Go.RowKit

/-- limbs of the first digits -/
theorem lims_dig {n i X d : Nat} (hX : X < 65536 ^ i) (hd : d < 65536) :
    lims n ((X + 65536 ^ i * d : Nat) : Int) = (lims n (X : Int)).set (i / 4) (lim (X : Int) (i / 4) + ((d * 65536 ^ (i % 4) : Nat) : Int)) ∧ lim (X : Int) (i / 4) + ((d * 65536 ^ (i % 4) : Nat) : Int) < 18446744073709551616 := by
  have e4 : 65536 ^ i = 65536 ^ (4 * (i / 4)) * 65536 ^ (i % 4) := by rw [← Nat.pow_add, Nat.div_add_mod]
  have hlow : 65536 ^ (i % 4) * 65536 ≤ 18446744073709551616 := by
    have : i % 4 = 0 ∨ i % 4 = 1 ∨ i % 4 = 2 ∨ i % 4 = 3 := by omega
    rcases this with h | h | h | h <;> rw [h] <;> decide
  have hu : 0 < 65536 ^ (i % 4) := Nat.pow_pos (by decide)
  have hB : 0 < 65536 ^ (4 * (i / 4)) := Nat.pow_pos (by decide)
  -- the limb itself
  have hq : X / 65536 ^ (4 * (i / 4)) < 65536 ^ (i % 4) := by
    rw [Nat.div_lt_iff_lt_mul hB, Nat.mul_comm, ← e4]; exact hX
  have hs : X / 65536 ^ (4 * (i / 4)) + d * 65536 ^ (i % 4) < 18446744073709551616 := by
    have := Nat.mul_le_mul_right (65536 ^ (i % 4)) (show d ≤ 65535 by omega)
    omega
  have hl : lim (X : Int) (i / 4) = ((X / 65536 ^ (4 * (i / 4)) : Nat) : Int) := by
    rw [lim_nat, Nat.mod_eq_of_lt (by omega)]
  have hn : lim ((X + 65536 ^ i * d : Nat) : Int) (i / 4) = ((X / 65536 ^ (4 * (i / 4)) + d * 65536 ^ (i % 4) : Nat) : Int) := by
    rw [lim_nat, e4, Nat.mul_assoc, Nat.add_mul_div_left _ _ hB, Nat.mul_comm (65536 ^ (i % 4)) d, Nat.mod_eq_of_lt hs]
  constructor
  · apply List.ext_getElem?
    intro j
    by_cases hj : j < n
    · rw [lims_get _ hj]
      by_cases hji : j = i / 4
      · subst hji
        rw [List.getElem?_set_self (by rw [lims_length]; exact hj), hn, hl, Int.natCast_add]
      · rw [List.getElem?_set_ne (fun h => hji h.symm), lims_get _ hj, lim_nat, lim_nat]
        congr 2
        rcases Nat.lt_or_ge j (i / 4) with h1 | h1
        · -- below: a multiple of W goes away
          obtain ⟨t, ht⟩ := Nat.exists_eq_add_of_le (show j + 1 ≤ i / 4 by omega)
          have e5 : 65536 ^ i = 65536 ^ (4 * j) * (18446744073709551616 * (65536 ^ (4 * t) * 65536 ^ (i % 4))) := by
            rw [e4, ht, show 4 * (j + 1 + t) = 4 * j + (4 + 4 * t) by omega, Nat.pow_add, Nat.pow_add, Nat.mul_assoc, Nat.mul_assoc]
          rw [e5, Nat.mul_assoc, Nat.add_mul_div_left _ _ (Nat.pow_pos (by decide)), Nat.mul_assoc, Nat.add_mul_mod_self_left]
        · -- above: both are zero
          have h2 : X + 65536 ^ i * d < 65536 ^ (4 * j) := by
            have h3 : 65536 ^ (i + 1) ≤ 65536 ^ (4 * j) := Nat.pow_le_pow_right (by decide) (by omega)
            rw [Nat.pow_succ] at h3
            have h4 := Nat.mul_le_mul_left (65536 ^ i) (show d ≤ 65535 by omega)
            omega
          rw [Nat.div_eq_of_lt h2, Nat.div_eq_of_lt (show X < 65536 ^ (4 * j) by omega)]
    · rw [List.getElem?_eq_none (by rw [lims_length]; omega), List.getElem?_eq_none (by rw [List.length_set, lims_length]; omega)]
  · rw [hl]; omega
theorem dig_digs (x i : Nat) : dig (digs x) i = x / 65536 ^ i % 65536 := by
  unfold dig
  by_cases h : i < (digs x).length
  · rw [digs_at x i h]; rfl
  · rw [List.getElem?_eq_none (by omega)]
    have h1 := digs_lt x
    have h2 : 65536 ^ (digs x).length ≤ 65536 ^ i := Nat.pow_le_pow_right (by decide) (by omega)
    rw [Nat.div_eq_of_lt (by omega)]; rfl
/-- the limbs of x are those of a -/
theorem lims_shift {n k : Nat} (a : Int) (hk : 4 * n ≤ k) : lims n (a + (65536 : Int) ^ k) = lims n a := by
  refine lims_eq ?_
  have e : (65536 : Int) ^ k = (18446744073709551616 : Int) ^ n * (65536 : Int) ^ (k - 4 * n) := by
    rw [show (18446744073709551616 : Int) = (65536 : Int) ^ 4 by decide, ← Int.pow_mul, ← Int.pow_add]
    congr 1
    omega
  rw [e, Int.add_mul_emod_self_left]
set_option maxRecDepth 100000 in
set_option maxHeartbeats 4000000 in
theorem limbs_any (P : Nat → Prop) (a : Int) (n : Nat) (hn : 1 ≤ n) (hn8 : n ≤ 8) (A : Option Addr) (c : Nat) (w : World) (ha : NumAt w P a A c) (hla : (digs a.natAbs).length ≤ 100) :
    Calls Tryd.prog 37 #[numV a A c, .int .i64 (n : Int)] w fun e w' => ∃ A' c', e = .returned (.slice A' n c') ∧ Below w.heap.size w w' ∧ Sl w' w'.heap.size A' (uCs (lims n a)) := by
  unfold numV
  obtain ⟨L, hL⟩ : ∃ L, L = (digs a.natAbs).length := ⟨_, rfl⟩
  obtain ⟨sg, hsg⟩ : ∃ sg, sg = a.sign := ⟨_, rfl⟩
  obtain ⟨w0, hw0⟩ : ∃ w0, w0 = w.alloc (.cells #[.int .i64 sg, .slice A L c] 49) := ⟨_, rfl⟩
  obtain ⟨w1, hw1⟩ : ∃ w1, w1 = w0.alloc (.cells #[.int .i64 sg, .slice A L c] 49) := ⟨_, rfl⟩
  have hb0 : Below w.heap.size w w0 := by rw [hw0]; exact bl_alloc (Below.refl _ _) _
  have B0 : Blk w0 w.heap.size 49 #[.int .i64 sg, .slice A L c] := by rw [hw0]; exact Blk.new _ _ _
  have hb1 : Below w0.heap.size w0 w1 := by rw [hw1]; exact bl_alloc (Below.refl _ _) _
  have X1 : Blk w1 (w.heap.size + 1) 49 #[.int .i64 sg, .slice A L c] := by rw [hw1, hw0]; exact Blk.new2 _ _ _ _
  have B1 := B0.step hb1
  have hB1 := bl_step hb0 hb1
  have hsz : w1.heap.size = w.heap.size + 1 + 1 := by rw [hw1, hw0]; simp
  rw [← hsg, ← hL]
  have HN1 : Hid (NumAt w1 (fun k => True ∧ k ≠ w.heap.size + 1) a A c) := hide ((ha.ne hB1 (g := w.heap.size + 1) (by omega)).mono fun k hk => ⟨trivial, hk.2⟩)
  have HLA := hide hla; have HL := hide hL; have HSG := hide hsg; have HSZ := hide hsz
  have HB1 := hide hB1; have HX1 := hide X1; have HBB1 := hide B1
  clear ha hla hL hsg hb0 B0 hb1 X1 B1 hB1 hsz
  go_enter Tryd.func37, Tryd.ntmps37
  go_upto_if 14 with fail
  rw [← hw0, ← hw1]
  have HW0 := hide hw0; have HW1 := hide hw1
  clear hw0 hw1
  go_cut [6] from 11 to 24 (fun _ wc => Below w.heap.size w wc ∧ ∃ (X : Nat) (s5 : Value) (A5 : Option Addr) (c5 : Nat), Blk wc (w.heap.size + 1) 49 #[s5, .slice A5 (digs X).length c5] ∧ Sl wc wc.heap.size A5 (dCs (digs X)) ∧ lims n (X : Int) = lims n a)
  · by_cases hs : sg < 0
    · have hneg : a < 0 := by
        rw [HSG.out] at hs
        exact Int.sign_neg_iff.1 hs
      obtain ⟨K, hK⟩ : ∃ K, K = max L (4 * n) := ⟨_, rfl⟩
      have hKb : K ≤ 100 := by have := HLA.out; rw [← HL.out] at this; omega
      obtain ⟨PW, hPW⟩ : ∃ PW : Int, PW = (65536 : Int) ^ K := ⟨_, rfl⟩
      have hpos : 0 ≤ a + PW := by
        have h1 := digs_lt a.natAbs
        have h2 : 65536 ^ (digs a.natAbs).length ≤ 65536 ^ K := Nat.pow_le_pow_right (by decide) (by rw [← HL.out]; omega)
        have h3 : PW = ((65536 ^ K : Nat) : Int) := by rw [hPW, Int.natCast_pow]; rfl
        omega
      have hlp : (digs PW.natAbs).length ≤ 1000 := by
        rw [hPW, Int.natAbs_pow, show (65536 : Int).natAbs = 65536 from rfl, digs_pow]
        simp; omega
      have HPW : Hid (∀ wk : World, w1.heap.size ≤ wk.heap.size → Calls Tryd.prog 50 #[.int .i64 (K : Int)] wk (GaveR (fun k => True ∧ k ≠ w.heap.size + 1) PW wk)) := hide fun wk hk => by
        rw [hPW]
        exact power_any (fun k => True ∧ k ≠ w.heap.size + 1) K hKb wk (fun k hk' => ⟨trivial, by have := HSZ.out; omega⟩)
      have hN1 := HN1.out
      have HAD : Hid (∀ (wk : World) (A' : Option Addr) (c' : Nat), w1.heap.size ≤ wk.heap.size → NumAt wk (fun k => True ∧ k ≠ w.heap.size + 1) a A c → NumAt wk (fun k => True ∧ k ≠ w.heap.size + 1) PW A' c' →
          Calls Tryd.prog 32 #[.agg #[.int .i64 sg, .slice A L c], .agg #[.int .i64 PW.sign, .slice A' (digs PW.natAbs).length c']] wk (GaveR (fun k => True ∧ k ≠ w.heap.size + 1) (a + PW) wk)) := hide fun wk A' c' hk h1 h2 => by
        have h := add_any (fun k => True ∧ k ≠ w.heap.size + 1) a PW A A' c c' wk h1 h2 (by have := HLA.out; omega) hlp (fun k hk' => ⟨trivial, by have := HSZ.out; omega⟩)
        unfold numV at h
        rw [← HSG.out, ← HL.out] at h
        exact h
      have HLS : Hid (lims n (a + PW) = lims n a) := hide (by rw [hPW]; exact lims_shift a (by omega))
      obtain ⟨S, hS⟩ : ∃ S, S = a + PW := ⟨_, rfl⟩
      rw [← hS] at HAD HLS hpos
      have h00 : HeldN w (fun _ => True) w1.heap.size w.heap.size (w.heap.size + 1) (.int .i64 sg) (.slice A L c) a A c w1 :=
        HeldN.mk' HB1.out (Nat.le_refl _) ⟨_, _, HX1.out⟩ hN1 (HBB1.out.cell (i := 0) rfl) (HBB1.out.cell (i := 1) rfl)
      have hd0 := h00.keep (bl_drew (Below.refl _ _))
      have b1 := HBB1.out.cell (i := 1) rfl
      have hj4 : IntKind.i64.wrap (4 * (n : Int)) = 4 * (n : Int) := by rw [IntKind.wrap_i64]; omega
      have hmx : max (L : Int) (4 * (n : Int)) = (K : Int) := by omega
      have hmx2 : (L : Int) ≤ 4 * (n : Int) ∨ 4 * (n : Int) < (L : Int) := by omega
      clear hS hlp hN1 hPW hK
      go_wp2_with fail
      go_region_held3 (fun w' => (Below w.heap.size w w' ∧ w1.heap.size ≤ w'.heap.size ∧ R2 w' (w.heap.size + 1) ∧ NumAt w' (fun k => True ∧ k ≠ w.heap.size + 1) a A c) ∧ w'.cell? ⟨w.heap.size, 0, none⟩ = some (.int .i64 sg) ∧ w'.cell? ⟨w.heap.size, 1, none⟩ = some (.slice A L c) ∧
          w'.cell? ⟨w.heap.size + 1, 0, none⟩ = some (Cw w' ⟨w.heap.size + 1, 0, none⟩) ∧ w'.cell? ⟨w.heap.size + 1, 1, none⟩ = some (Cw w' ⟨w.heap.size + 1, 1, none⟩) ∧ w'.frozen? ⟨w.heap.size + 1, 0, none⟩ = false ∧ w'.frozen? ⟨w.heap.size + 1, 1, none⟩ = false)
        (first | with_reducible exact hK5 | with_reducible exact hd0 | with_reducible exact h00 | with_reducible exact HeldN.keep (by assumption) (by assumption) | with_reducible exact hd0.keep (by assumption) | exact HeldN.set2 (by assumption) (by omega) (by omega) _ _)
        (first
          | (go_at_call 50; ((with_reducible refine (HPW.out _ (by first | exact HeldN.big (by assumption))).mono ?_); rintro e w8 ⟨A8, c8, rfl, hN8, hb8⟩; unfold numV))
          | (go_at_call 32; ((with_reducible refine (HAD.out _ A8 c8 (by first | exact HeldN.big (by assumption)) (by first | exact HeldN.num (by assumption)) hN8).mono ?_); rintro e w9 ⟨A9, c9, rfl, hN9, hb9⟩; have hK5 := HeldN.keep (by assumption) hb9; unfold numV)))
      all_goals
        go_wp2_with fail
        go_meet
        refine ⟨((HeldN.below hK5).setCell (by show w.heap.size ≤ w.heap.size + 1; omega) _).setCell (by show w.heap.size ≤ w.heap.size + 1; omega) _, S.toNat, .int .i64 S.sign, A9, c9, ?_, ?_, ?_⟩
        · obtain ⟨u, v, hB⟩ := HeldN.row hK5
          rw [show S.toNat = S.natAbs by omega]
          exact (hB.set 0 _).set 1 _
        · rw [show S.toNat = S.natAbs by omega]
          exact ((hN9.set _).set _).1.any
        · rw [show ((S.toNat : Nat) : Int) = S by omega]
          exact HLS.out
    · have hpos : 0 ≤ a := by
        rw [HSG.out] at hs
        rcases Int.lt_or_le a 0 with h | h
        · exact absurd (Int.sign_neg_iff.2 h) hs
        · exact h
      have HPOS := hide hpos
      clear hpos
      go_wp2_with fail
      go_meet
      refine ⟨HB1.out, a.natAbs, .int .i64 sg, A, c, ?_, ?_, ?_⟩
      · rw [← HL.out]; exact HX1.out
      · exact HN1.out.1.any
      · rw [show ((a.natAbs : Nat) : Int) = a by have := HPOS.out; omega]
  · obtain ⟨hbc, X, s5, A5, c5, hBx, hsx, hlx⟩ := hcut
    have HBc := hide hbc; have HBx := hide hBx; have HSX := hide hsx; have HLX := hide hlx
    clear hbc hBx hsx hlx
    have hmk := make_u64 n (by omega) wc
    obtain ⟨w2, hw2⟩ : ∃ w2, w2 = wc.alloc (.cells (uCs (List.replicate n 0)).toArray 33) := ⟨_, rfl⟩
    have hb2 : Below wc.heap.size wc w2 := by rw [hw2]; exact bl_alloc (Below.refl _ _) _
    have G2 : Blk w2 wc.heap.size 33 (uCs (List.replicate n 0)).toArray := by rw [hw2]; exact Blk.new _ _ _
    have HB2 := hide hb2; have HG2 := hide G2
    clear hb2 G2
    go_wp2
    rw [← hw2]
    clear hw2 hmk
    obtain ⟨g, hg⟩ : ∃ g, g = wc.heap.size := ⟨_, rfl⟩
    rw [← hg] at HG2 ⊢
    have hge : wc.heap.size ≤ g ∧ g ≤ wc.heap.size := by omega
    clear hg
    have hn4 : IntKind.i64.wrap (4 * (n : Int)) = 4 * (n : Int) := by rw [IntKind.wrap_i64]; omega
    go_loopw [8] (fun i wr => ∃ k : Nat, k ≤ 4 * n ∧ i = .int .i64 k ∧ Hid (Below wc.heap.size wc wr) ∧ Hid (Blk wr g 33 (uCs (lims n ((X % 65536 ^ k : Nat) : Int))).toArray))
      (fun i _ => 4 * n - (intOf i).toNat)
    case atStart =>
      refine ⟨0, by omega, rfl, HB2, ?_⟩
      rw [Nat.pow_zero, Nat.mod_one, show ((0 : Nat) : Int) = 0 from rfl, lims_zeros]
      exact HG2
    case round =>
      clear HG2 HB2
      obtain ⟨k, hk, rfl, HBr, HBk⟩ := hrel
      by_cases hlt : k < 4 * n
      · have hki : (k : Int) < 4 * (n : Int) := by omega
        have hk0 : (0 : Int) ≤ (k : Int) := by omega
        obtain ⟨j, hj⟩ : ∃ j, j = k / 4 := ⟨_, rfl⟩
        obtain ⟨r, hr⟩ : ∃ r, r = k % 4 := ⟨_, rfl⟩
        have q1 : (k : Int).tdiv 4 = (j : Int) := by rw [Int.tdiv_eq_ediv_of_nonneg (by omega)]; omega
        have q2 : (k : Int).tmod 4 = (r : Int) := by rw [Int.tmod_eq_emod_of_nonneg (by omega)]; omega
        have q3 : (k : Int) / 4 = (j : Int) := by omega
        have q4 : (k : Int) % 4 = (r : Int) := by omega
        have hr4 : r < 4 := by omega
        have hjn : j < n := by omega
        have HJ := hide hj; have HR := hide hr
        clear hj hr
        rename World => wq
        go_wp2
        go_loopw [9, 10] (fun u i wr => ∃ t : Nat, t ≤ r ∧ i = .int .i64 t ∧ u = .int .u64 ((65536 ^ t : Nat) : Int) ∧ wr = wq)
          (fun _ i _ => 4 - (intOf i).toNat)
        case atStart => exact ⟨0, by omega, rfl, rfl, rfl⟩
        case round =>
          obtain ⟨t, ht, rfl, rfl, rfl⟩ := hrel
          by_cases htr : t < r
          · have htri : (t : Int) < (r : Int) := by omega
            have e1 : IntKind.u64.wrap (((65536 ^ t : Nat) : Int) * 65536) = ((65536 ^ (t + 1) : Nat) : Int) := by
              have : t = 0 ∨ t = 1 ∨ t = 2 := by omega
              rcases this with rfl | rfl | rfl <;> decide
            obtain ⟨u1, hu1⟩ : ∃ u1 : Nat, u1 = 65536 ^ t := ⟨_, rfl⟩
            rw [← hu1] at e1 ⊢
            obtain ⟨u2, hu2⟩ : ∃ u2 : Nat, u2 = 65536 ^ (t + 1) := ⟨_, rfl⟩
            rw [← hu2] at e1
            have HU2 := hide hu2
            clear hu1 hu2
            go_wp2
            go_roundw
            case rel => exact ⟨t + 1, by omega, by go_num, by rw [HU2.out], by first | trivial | rfl⟩
            case measure => simp [intOf]; omega
          · obtain rfl : t = r := by omega
            have htri : ¬ (t : Int) < (t : Int) := by omega
            have hX : X % 65536 ^ k < 65536 ^ k := Nat.mod_lt _ (Nat.pow_pos (by decide))
            have hd : X / 65536 ^ k % 65536 < 65536 := Nat.mod_lt _ (by decide)
            obtain ⟨s1, s2⟩ := lims_dig (n := n) hX hd
            rw [← HJ.out, ← HR.out] at s1 s2
            have hnx : X % 65536 ^ k + 65536 ^ k * (X / 65536 ^ k % 65536) = X % 65536 ^ (k + 1) := by rw [Nat.pow_succ, Nat.mod_mul]
            rw [hnx] at s1
            have g0 := HBk.out.cell (get_uCs (lims_get ((X % 65536 ^ k : Nat) : Int) hjn))
            have f0 := HBk.out.frozen j
            have hgl := HBk.out.lt
            have hlb := lim_bd ((X % 65536 ^ k : Nat) : Int) j
            have HB4 := HBk.out.drew.set j (.int .u64 (lim ((X % 65536 ^ k : Nat) : Int) j + ((X / 65536 ^ k % 65536 * 65536 ^ t : Nat) : Int)))
            rw [set_uCs, ← s1] at HB4
            have HNB := hide HB4
            have hdg := dig_digs X k
            have hbx1 := (HBr.out.cell (p := ⟨w.heap.size + 1, 1, none⟩) HBx.out.lt).trans (HBx.out.cell (i := 1) rfl)
            have HDG : Hid (∀ wx : World, Sl wx wx.heap.size A5 (dCs (digs X)) → Calls Tryd.prog 62 #[.slice A5 (digs X).length c5, .int .i64 (k : Int)] wx fun e w' => e = .returned (.int .i64 ((X / 65536 ^ k % 65536 : Nat) : Int)) ∧ wx = w') := hide fun wx h => by
              refine (digit_any (digs X) k A5 c5 wx h).mono ?_
              rintro e w' ⟨rfl, rfl⟩
              rw [hdg]; exact ⟨rfl, rfl⟩
            have HSq := hide ((HSX.out.below HBr.out).more HBr.out.size)
            obtain ⟨x, hx⟩ : ∃ x : Int, x = lim ((X % 65536 ^ k : Nat) : Int) j := ⟨_, rfl⟩
            obtain ⟨d, hdd⟩ : ∃ d : Nat, d = X / 65536 ^ k % 65536 := ⟨_, rfl⟩
            obtain ⟨u, hu⟩ : ∃ u : Nat, u = 65536 ^ t := ⟨_, rfl⟩
            rw [← hx] at g0 hlb HNB s2
            rw [← hdd] at HNB HDG s2 hd
            rw [← hu] at HNB s2 ⊢
            have hmul : ((d * u : Nat) : Int) = (d : Int) * (u : Int) := Int.natCast_mul _ _
            rw [hmul] at HNB s2
            have hm0 : 0 ≤ (d : Int) * (u : Int) := Int.mul_nonneg (by omega) (by omega)
            have e1 : IntKind.u64.wrap ((d : Int) * (u : Int)) = (d : Int) * (u : Int) := by rw [IntKind.wrap_u64]; omega
            have e2 : IntKind.u64.wrap (x + (d : Int) * (u : Int)) = x + (d : Int) * (u : Int) := by rw [IntKind.wrap_u64]; omega
            have e3 : IntKind.u64.wrap (d : Int) = (d : Int) := by rw [IntKind.wrap_u64]; omega
            obtain ⟨p, hp⟩ : ∃ p : Int, p = (d : Int) * (u : Int) := ⟨_, rfl⟩
            obtain ⟨DL, hDL⟩ : ∃ DL, DL = (digs X).length := ⟨_, rfl⟩
            rw [← hDL] at hbx1 HDG
            have HP := hide hp
            have hjn' : (j : Int) < (n : Int) := by omega
            have hjw : IntKind.i64.wrap (j : Int) = (j : Int) := by rw [IntKind.wrap_i64]; omega
            have hj0 : (0 : Int) ≤ (j : Int) := by omega
            clear s1 hnx HB4 hx hdd hu hmul hX hp hdg hDL hlb hm0 s2 hd
            go_wp2
            go_region_law (first
              | (go_simp; go_at_call 62; refine (HDG.out _ HSq.out.drew).mono ?_; rintro e w' ⟨rfl, rfl⟩))
            all_goals
              go_wp2
              go_roundw
              case rel => exact ⟨k + 1, by omega, by go_num, hide ((bl_drewN HBr.out 1).setCell (by exact hge.1) _), HNB⟩
              case measure => simp [intOf]; omega
      · obtain rfl : k = 4 * n := by omega
        have e : lims n ((X % 65536 ^ (4 * n) : Nat) : Int) = lims n a := by
          rw [← HLX.out]
          refine lims_eq ?_
          rw [W64_nat, Int.natCast_emod]
          exact Int.emod_emod_of_dvd _ (Int.dvd_refl _)
        rw [e] at HBk
        have hsl : Sl wr wr.heap.size (some ⟨g, 0, none⟩) (uCs (lims n a)) := Sl.mk HBk.out.lt fun j u hu => by
          rw [Nat.zero_add]; exact HBk.out.cell (by simpa using hu)
        have HSL := hide hsl
        have hB := bl_step HBc.out HBr.out
        have hki : ¬ ((4 * n : Nat) : Int) < 4 * (n : Int) := by omega
        clear e hsl
        go_wp2
        go_ret
        exact ⟨some ⟨g, 0, none⟩, ⟨n, rfl⟩, hB, HSL.out⟩
end Go.Proofs.YthdpbmpdiaencaaDoor
