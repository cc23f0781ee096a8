/- limb: Mul and Sign on the limbs of numbers. -/
import Derived.Test.YtgbimniloabjkaaDoorLimb2
namespace Go.Proofs.YtgbimniloabjkaaDoor
open Go.RowKit

theorem mulAdd_int (a b c d : Int) (a0 : 0 ≤ a) (a1 : a < 18446744073709551616) (b0 : 0 ≤ b) (b1 : b < 18446744073709551616) (c0 : 0 ≤ c) (c1 : c < 18446744073709551616) (d0 : 0 ≤ d) (d1 : d < 18446744073709551616) (w : World) :
    Calls Tryd.prog 91 #[.int .u64 a, .int .u64 b, .int .u64 c, .int .u64 d] w fun e w' => e = .returned (.tuple #[.int .u64 ((a * b + c + d) / 18446744073709551616), .int .u64 ((a * b + c + d) % 18446744073709551616)]) ∧ w = w' := by
  obtain ⟨A, rfl⟩ := Int.eq_ofNat_of_zero_le a0
  obtain ⟨B, rfl⟩ := Int.eq_ofNat_of_zero_le b0
  obtain ⟨C, rfl⟩ := Int.eq_ofNat_of_zero_le c0
  obtain ⟨D, rfl⟩ := Int.eq_ofNat_of_zero_le d0
  have h := mulAdd_any A B C D (by omega) (by omega) (by omega) (by omega) w
  have e : ((A : Int) * B + C + D) = ((A * B + C + D : Nat) : Int) := by push_cast; rfl
  rw [e]
  exact h
theorem set_uCs (l : List Int) (k : Nat) (z : Int) : (uCs l).toArray.setIfInBounds k (.int .u64 z) = (uCs (l.set k z)).toArray := by
  simp [uCs, List.setIfInBounds_toArray, List.map_set]
theorem get_uCs {l : List Int} {k : Nat} {x : Int} (h : l[k]? = some x) : (uCs l).toArray[k]? = some (.int .u64 x) := by simp [uCs, h]

set_option maxRecDepth 100000 in
set_option maxHeartbeats 4000000 in
theorem lmul_any (p q : Nat) (x y : Int) (hp : 1 ≤ p) (hq : 1 ≤ q) (h8 : p + q ≤ 8) (hfx : Fits p x) (hfy : Fits q y) (A A' : Option Addr) (c c' : Nat) (w : World) (hs : Sl w w.heap.size A (uCs (lims p x))) (hs' : Sl w w.heap.size A' (uCs (lims q y))) :
    Calls Tryd.prog 80 #[.slice A p c, .slice A' q c'] w (GaveL (lims (p + q) (x * y)) w) := by
  obtain ⟨b, off, rfl, hb, hcell⟩ := hs.u (by rw [lims_length]; omega)
  obtain ⟨b', off', rfl, hb', hcell'⟩ := hs'.u (by rw [lims_length]; omega)
  obtain ⟨w0, hw0⟩ : ∃ w0, w0 = w.alloc (.cells #[.slice (some ⟨b, off, none⟩) p c, .slice (some ⟨b', off', none⟩) q c'] 127) := ⟨_, rfl⟩
  have hb0 : Below w.heap.size w w0 := by rw [hw0]; exact bl_alloc (Below.refl _ _) _
  have X0 : Blk w0 w.heap.size 127 #[.slice (some ⟨b, off, none⟩) p c, .slice (some ⟨b', off', none⟩) q c'] := by rw [hw0]; exact Blk.new _ _ _
  have IS := is_true [(some ⟨b, off, none⟩, p, c), (some ⟨b', off', none⟩, q, c')] (by simp; omega) (by simp) (by simp) w0.heap.size (some ⟨w.heap.size, 0, none⟩) 2 w0 (Sl.mk X0.lt fun j u hu => by
    rw [Nat.zero_add]; exact X0.cell (by simpa [slCs] using hu))
  obtain ⟨n, hn⟩ : ∃ n, n = p + q := ⟨_, rfl⟩
  have EX := extend_any p n x (.inl hfx) hp (by omega) (by omega) (by omega) (some ⟨b, off, none⟩) c w0 ((hs.below hb0).more hb0.size)
  have EY : ∀ w1, Below w0.heap.size w0 w1 → Calls Tryd.prog 74 #[.slice (some ⟨b', off', none⟩) q c', .int .i64 (n : Int)] w1 (GaveL (lims n y) w1) :=
    fun w1 h1 => extend_any q n y (.inl hfy) hq (by omega) (by omega) (by omega) (some ⟨b', off', none⟩) c' w1 ((hs'.below (hb0.trans (h1.mono hb0.size))).more (Nat.le_trans hb0.size h1.size))
  have hnI : (p : Int) + (q : Int) = (n : Int) := by omega
  have hmk := make_u64 n (by omega)
  have HIS := hide IS; have HEX := hide EX; have HEY := hide EY
  rw [← hn]
  have hnp : p + q ≤ n ∧ n ≤ p + q := by omega
  clear IS EX EY hcell hcell' hs hs' hn hfx hfy
  go_enter Tryd.func80, Tryd.ntmps80
  go_wp2_with fail
  rw [← hw0]
  have HW0 := hide hw0
  clear hw0
  refine HIS.out.mono ?_
  rintro e w' ⟨rfl, rfl⟩
  go_wp2_with fail
  refine HEX.out.mono ?_
  rintro e w1 ⟨A1, c1, rfl, hb1, hs1⟩
  have E1 := HEY.out w1 hb1
  have HE1 := hide E1
  rw [lims_length]
  have HS1 := hide hs1
  clear E1 HEX HEY hs1
  go_wp2_with fail
  refine HE1.out.mono ?_
  rintro e w2 ⟨A2, c2, rfl, hb2, hs2⟩
  rw [lims_length]
  have hsx := (HS1.out.below hb2).more hb2.size
  obtain ⟨xb, xo, rfl, hxb, hxc⟩ := hsx.u (by rw [lims_length]; omega)
  obtain ⟨yb, yo, rfl, hyb, hyc⟩ := hs2.u (by rw [lims_length]; omega)
  have HXC := hide hxc; have HYC := hide hyc
  have HB2 := bl_step (bl_step hb0 hb1) hb2
  obtain ⟨w3, hw3⟩ : ∃ w3, w3 = w2.alloc (.cells (uCs (List.replicate n 0)).toArray 70) := ⟨_, rfl⟩
  have hb3 : Below w2.heap.size w2 w3 := by rw [hw3]; exact bl_alloc (Below.refl _ _) _
  have G3 : Blk w3 w2.heap.size 70 (uCs (List.replicate n 0)).toArray := by rw [hw3]; exact Blk.new _ _ _
  clear hxc hyc hsx hs2 HS1 HE1
  go_wp2
  rw [← hw3]
  have HW3 := hide hw3
  clear hw3 hmk
  obtain ⟨g, hg⟩ : ∃ g, g = w2.heap.size := ⟨_, rfl⟩
  rw [← hg] at G3 ⊢
  have hge : w2.heap.size ≤ g ∧ g ≤ w2.heap.size := by omega
  clear hg
  go_loopw [35] (fun i wr => ∃ (k : Nat) (l : List Int), k ≤ n ∧ i = .int .i64 k ∧ MulOut (lims n x) (lims n y) l k n ∧ Below w2.heap.size w2 wr ∧ Blk wr g 70 (uCs l).toArray)
    (fun i _ => n - (intOf i).toNat)
  case atStart => exact ⟨0, _, by omega, rfl, MulOut.start _ _ _, hb3, G3⟩
  case round =>
    obtain ⟨k, l, hk, rfl, hmo, hbr, hblk⟩ := hrel
    by_cases hlt : k < n
    · have hx := lims_get x hlt
      have hxl := lim_bd x k
      have cx := (hbr.cell (p := ⟨xb, xo + k, none⟩) hxb).trans (HXC.out _ _ hx)
      have HMO := hide hmo
      have hml := hmo.len
      have hmu := hmo.u
      have HX := hide hx
      have hin := MulIn.start (n := n) k (lim x k) (lims n y) hml hmu
      generalize hxk : lim x k = xk at *
      clear hmo hx hmu
      have hkn : (k : Int) < (n : Int) := by omega
      go_wp2
      go_loopw [10, 41] (fun u j wr2 => ∃ (i' : Nat) (l' : List Int) (ca : Int), i' ≤ n - k ∧ j = .int .i64 i' ∧ u = .int .u64 ca ∧ MulIn l l' k i' n xk (lims n y) ca ∧ Below w2.heap.size w2 wr2 ∧ Blk wr2 g 70 (uCs l').toArray)
        (fun _ j _ => n - k - (intOf j).toNat)
      case atStart => exact ⟨0, l, 0, by omega, rfl, rfl, hin, hbr, hblk⟩
      case round =>
        clear hin hbr hblk cx
        obtain ⟨i', l', ca, hi', rfl, rfl, hin, hbr, hblk⟩ := hrel
        by_cases hlt' : i' < n - k
        · have hy := lims_get y (show i' < n by omega)
          have hyl := lim_bd y i'
          have cx := (hbr.cell (p := ⟨xb, xo + k, none⟩) hxb).trans (HXC.out _ _ HX.out)
          have cy := (hbr.cell (p := ⟨yb, yo + i', none⟩) hyb).trans (HYC.out _ _ hy)
          generalize hyk : lim y i' = yk at *
          obtain ⟨o, ho⟩ : ∃ o, l'[k + i']? = some o := ⟨_, List.getElem?_eq_getElem (by rw [hin.len]; omega)⟩
          have hob := hin.u o (List.mem_of_getElem? ho)
          have hst := hin.step ho hy hxl.1 hxl.2 hyl.1 hyl.2
          have HM : Hid (∀ wk, Calls Tryd.prog 91 #[.int .u64 xk, .int .u64 yk, .int .u64 o, .int .u64 ca] wk fun e w' => e = .returned (.tuple #[.int .u64 ((xk * yk + o + ca) / 18446744073709551616), .int .u64 ((xk * yk + o + ca) % 18446744073709551616)]) ∧ wk = w') :=
            hide fun wk => mulAdd_int xk yk o ca hxl.1 hxl.2 hyl.1 hyl.2 hob.1 hob.2 hin.c0 hin.c1 wk
          obtain ⟨hi, hhi⟩ : ∃ hi, hi = (xk * yk + o + ca) / 18446744073709551616 := ⟨_, rfl⟩
          obtain ⟨lo, hlo⟩ : ∃ lo, lo = (xk * yk + o + ca) % 18446744073709551616 := ⟨_, rfl⟩
          rw [← hhi, ← hlo] at HM hst
          have HST := hide hst
          have g0 := hblk.cell (get_uCs ho)
          have f0 := hblk.frozen (k + i')
          have hgl := hblk.lt
          have HB := hide (hblk.drew.set (k + i') (.int .u64 lo))
          rw [set_uCs] at HB
          have hin' : (i' : Int) < (n : Int) - (k : Int) := by omega
          have hi0 : (0 : Int) ≤ (i' : Int) := by omega
          have hki : (k : Int) + (i' : Int) < (n : Int) := by omega
          have hki0 : (0 : Int) ≤ (k : Int) + (i' : Int) := by omega
          have hto : ((k : Int) + (i' : Int)).toNat = k + i' := by omega
          have hwk : IntKind.i64.wrap ((k : Int) + (i' : Int)) = (k : Int) + (i' : Int) := by rw [IntKind.wrap_i64]; omega
          have hin2 : (i' : Int) < (n : Int) := by omega
          have hk0 : (0 : Int) ≤ (k : Int) := by omega
          clear hin hst hy hyk hhi hlo ho hob hblk hyl hxl
          go_wp2
          go_region_law (first
            | (go_simp; go_at_call 91; refine (HM.out _).mono ?_; rintro e w' ⟨rfl, rfl⟩))
          all_goals
            go_wp2
            go_roundw
            case rel => exact ⟨i' + 1, _, _, by omega, by go_num, rfl, HST.out, (bl_drew hbr).setCell (by simp; omega) _, HB.out⟩
            case measure => simp [intOf]; omega
        · obtain rfl : i' = n - k := by omega
          have hst := HMO.out.step (by rw [HX.out]) (lims_length n y) hk hin
          have HST := hide hst
          have hin' : ¬ ((n - k : Nat) : Int) < (n : Int) - (k : Int) := by omega
          clear hin hst
          go_wp2
          go_roundw
          case rel => exact ⟨k + 1, l', by omega, by go_num, HST.out, hbr, hblk⟩
          case measure => simp [intOf]; omega
    · obtain rfl : n = k := by omega
      have hd := hmo.done
      subst hd
      have hsl : Sl wr wr.heap.size (some ⟨g, 0, none⟩) (uCs (lims n (x * y))) := Sl.mk hblk.lt fun j u hu => by
        rw [Nat.zero_add]; exact hblk.cell (by simpa using hu)
      have HSL := hide hsl
      have HBr := bl_step HB2 hbr
      clear hmo hblk hsl
      go_wp2
      go_ret
      refine ⟨some ⟨g, 0, none⟩, n, ?_, HBr, HSL.out⟩
      rw [lims_length]; rfl
end Go.Proofs.YtgbimniloabjkaaDoor
