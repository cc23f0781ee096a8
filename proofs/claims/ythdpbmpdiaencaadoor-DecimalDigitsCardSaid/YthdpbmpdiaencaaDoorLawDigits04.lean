/- DecimalDigits: an integer divided by ten has one digit less, and the remainder is the last digit. -/
import Derived.Test.YthdpbmpdiaencaaDoorRefFormat10
import Derived.Deep.CutBlock
import Derived.Deep.RegionWith
namespace Go.Proofs.YthdpbmpdiaencaaDoor
open Go.RowKit

theorem trim_digits (m : Nat) : Lib.trimPrefix (dgB (m / 10) ++ [UInt8.ofNat (48 + m % 10)]) [48] = dgB m := by
  by_cases h : m < 10
  · have e1 : dgB (m / 10) = [48] := by
      rw [show m / 10 = 0 by omega]
      unfold dgB
      rw [show dr 0 = [0] from dr_small (by decide)]; rfl
    have e2 : dgB m = [UInt8.ofNat (48 + m % 10)] := by
      unfold dgB
      rw [dr_small h, show m % 10 = m by omega]; rfl
    rw [e1, e2]; rfl
  · have e2 : dgB m = dgB (m / 10) ++ [UInt8.ofNat (48 + m % 10)] := by
      unfold dgB
      rw [dr_big (by omega)]
      simp
    rw [← e2]
    unfold Lib.trimPrefix Lib.hasPrefix
    cases hd : dgB m with
    | nil => exact absurd hd (dgB_ne m)
    | cons a t =>
      have ha : a ≠ 48 := fun ha => by
        have := dgB_head (m := m) (by rw [hd, ha]; rfl)
        omega
      have : ([48] : List UInt8).isPrefixOf (a :: t) = false := by
        simp only [List.isPrefixOf, Bool.and_true, beq_eq_false_iff_ne]
        exact fun h => ha h.symm
      rw [this]; rfl
theorem trimZero_any (l : List UInt8) (w : World) : Calls Tryd.prog 18 #[.string (strOf l), .string { data := #[48] }] w fun e w' => e = .returned (.string (strOf (Lib.trimPrefix l [48]))) ∧ w = w' := by
  refine (trimPrefix_any (strOf l) { data := #[48] } w).mono ?_
  rintro e w' ⟨rfl, rfl⟩
  exact ⟨rfl, rfl⟩
theorem txt_nat (m : Nat) : txt (m : Int) = dgB m := by
  unfold txt
  rw [if_neg (by omega), List.nil_append, Int.natAbs_natCast]
theorem lims_zero_top {n : Nat} {v : Int} (v0 : 0 ≤ v) (v1 : v < (18446744073709551616 : Int) ^ n) : lims (n + 1) v = lims n v ++ [0] ∧ Fits (n + 1) v := by
  have hp := W64_pos n
  constructor
  · rw [lims_succ]
    unfold lim
    rw [Int.ediv_eq_zero_of_lt v0 v1]; rfl
  · unfold Fits
    rw [Int.pow_succ]
    omega
set_option maxRecDepth 100000 in
set_option maxHeartbeats 4000000 in
theorem lawDigits04 (l : List Int) (A : Option Addr) (c : Nat) (w : World) (hs : Sl w w.heap.size A (uCs l)) (hu : L64 l) (hw : MWords w) (hwg : 2 < w.heap.size) :
    Calls Tryd.prog 8 #[.slice A l.length c] w fun e w' => e = .returned (.bool true) ∧ Below w.heap.size w w' := by
  have IS := isU_any A l.length c w
  have AL : Hid (∀ wx, Below w.heap.size w wx → Calls Tryd.prog 9 #[] wx fun e w' => e = .returned (.bool true) ∧ Below wx.heap.size wx w') := hide fun wx hb =>
    alive_true wx (words_at hw hwg hb).1 (words_at hw hwg hb).2
  by_cases hn : 1 ≤ l.length ∧ l.length ≤ 8
  · rw [decide_eq_true hn] at IS
    have HI := hide IS
    clear IS
    by_cases h8 : l.length = 8
    · have h8i : ((l.length : Int) == 8) = true := by rw [beq_iff_eq]; omega
      clear hs hu hw hwg hn h8
      go_enter Tryd.func8, Tryd.ntmps8
      go_wp2_with fail
      refine HI.out.mono ?_
      rintro e w' ⟨rfl, rfl⟩
      go_wp2_with fail
      refine (AL.out _ (Below.refl _ _)).mono ?_
      rintro e w1 ⟨rfl, hb1⟩
      go_wp2
      go_ret
      exact ⟨rfl, hb1⟩
    · have h8i : ((l.length : Int) == 8) = false := by rw [beq_eq_false_iff_ne]; omega
      obtain ⟨m, hm⟩ := Int.eq_ofNat_of_zero_le (valL_bd l hu).1
      have hmv := (valL_bd l hu).2
      rw [hm] at hmv
      have hvl : lims l.length (m : Int) = l := by rw [← hm]; exact (lims_of rfl hu rfl).symm
      obtain ⟨z1, z2⟩ := lims_zero_top (show (0 : Int) ≤ (m : Int) by omega) hmv
      rw [hvl] at z1
      have hlt : (m : Int) < (18446744073709551616 : Int) ^ (l.length + 1) := by
        have hp := W64_pos l.length
        rw [Int.pow_succ]; omega
      have hf2 : Fits (l.length + 1) ((m / 10 : Nat) : Int) := by
        obtain ⟨f1, f2⟩ := z2
        have hp := W64_pos (l.length + 1)
        unfold Fits
        generalize (18446744073709551616 : Int) ^ (l.length + 1) = B at *
        omega
      have HZ1 := hide z1; have HZ2 := hide z2; have HLT := hide hlt; have HF2 := hide hf2; have HS := hide hs
      have n1 := hn.1
      have n8 : l.length ≤ 7 := by omega
      have HW : Hid (MWords w ∧ 2 < w.heap.size) := hide ⟨hw, hwg⟩
      obtain ⟨n, hnl⟩ : ∃ n, n = l.length := ⟨_, rfl⟩
      have HNL := hide hnl
      obtain ⟨i0, hi, hz0, hz1, hz2⟩ := info_parts u64_info
      rw [← hnl] at HI HZ1 HZ2 HLT HF2 h8i n1 n8 ⊢
      clear hs hu hw hwg hn h8 hm hmv hvl z1 z2 hlt hf2 hnl
      go_enter Tryd.func8, Tryd.ntmps8
      go_wp2_with fail
      refine HI.out.mono ?_
      rintro e w' ⟨rfl, rfl⟩
      obtain ⟨b, off, rfl, hb, hcell⟩ := HS.out.u (by rw [← HNL.out]; omega)
      have HC := hide hcell
      clear hcell
      go_wp2_with (at_builtin; refine wpList_append_own _ rfl (.tmp 17) (.tmp 18) 22 rfl w.heap.size 33 i0 (.int .u64 0) 1 8 Tryd.underlying22 hi hz0 hz1 hz2 rfl (by decide) (.slice (some ⟨w.heap.size, 0, none⟩) 0 0) 0 [] rfl (own_of_blk (xs := []) (Blk.new _ _ _) (Nat.le_refl _) rfl (by unfold maxLen; omega)) ⟨b, off, none⟩ n c (uCs l) rfl ?c1 ?c2 ?c3 ?c4 ?c5 ?c6 ?_)
      case c1 => rw [uCs_length, ← HNL.out, Nat.mul_one]
      case c2 =>
        intro j u hu
        rw [World.cell?_alloc_lt _ _ _ (by simp [Addr.add]; split <;> (dsimp only; omega))]
        have e : (⟨b, off, none⟩ : Addr).add j = ⟨b, off + j, none⟩ := by unfold Addr.add; split <;> simp_all
        rw [e]
        simp only [uCs, List.getElem?_map, Option.map_eq_some_iff] at hu
        obtain ⟨x, hx, rfl⟩ := hu
        exact HC.out j x hx
      case c3 => simp [uCs, Value.oneCell']
      case c4 => unfold maxLen; omega
      case c5 => omega
      case c6 => simp
      intro v3 w3 hown3 hgrow3 _
      have hb3 : Below w.heap.size w w3 := (bl_alloc (Below.refl _ _) _).grown hgrow3 (by simp) (fun k hk => by simp [Value.ownBlock] at hk; omega)
      have hown4 : w3.ownsRow w.heap.size 33 1 v3 n (uCs l) := by simpa using hown3
      obtain ⟨A3, c3, rfl, _⟩ := own_slice hown4
      have HO := hide hown4
      clear hown3 hgrow3
      have hb3z := hb3.size
      go_wp2_with (at_builtin; refine wpList_append_own _ rfl (.tmp 19) (.tmp 20) 22 rfl w.heap.size 33 i0 (.int .u64 0) 1 8 Tryd.underlying22 hi hz0 hz1 hz2 rfl (by decide) _ n (uCs l) rfl (hown4.alloc _) ⟨w3.heap.size, 0, none⟩ 1 1 [.int .u64 0] rfl rfl ?d1 ?d2 ?d3 ?d4 ?d5 ?_)
      case d1 => first | exact fun _ _ h => h | exact blk_cells (Blk.new _ _ _)
      case d2 => simp [Value.oneCell']
      case d3 => unfold maxLen; omega
      case d4 => omega
      case d5 => first | omega | (simp; omega)
      intro v5 w5 hown5 hgrow5 _
      have hb5 : Below w.heap.size w w5 := (hb3.alloc hb3z _).grown hgrow5 (by simp; omega) (fun k hk => own_base hown4 hk)
      have hown6 : w5.ownsRow w.heap.size 33 1 v5 (n + 1) (uCs (lims (n + 1) (m : Int))) := by
        have e : uCs (lims (n + 1) (m : Int)) = uCs l ++ [.int .u64 0] := by rw [HZ1.out]; simp [uCs]
        rw [e]; exact hown5
      obtain ⟨A5, c5, rfl, _⟩ := own_slice hown6
      have hs5 := Sl.of_own hown6
      have RF := hide (refFormat_any (n + 1) (m : Int) HZ2.out (by omega) (by omega) A5 c5 w5 hs5)
      rw [txt_nat] at RF
      have HS5 := hide hs5
      clear hown5 hown6 hown4 hgrow5 hs5 hi hz0 hz1 hz2 HO
      go_wp2_with fail
      refine RF.out.mono ?_
      rintro e w6 ⟨rfl, hb6⟩
      have hB6 := bl_step hb5 hb6
      have DS := hide (divSmall_any (n + 1) (m : Int) 10 (by omega) (by omega) (by omega) HLT.out (by decide) (by decide) A5 c5 w6 ((HS5.out.below hb6).more hb6.size))
      go_wp2_with fail
      refine DS.out.mono ?_
      rintro e w7 ⟨A7, rfl, hb7, hs7⟩
      have hB7 := bl_step hB6 hb7
      have eq1 : (m : Int) / 10 = ((m / 10 : Nat) : Int) := by omega
      have er1 : (m : Int) % 10 = ((m % 10 : Nat) : Int) := by omega
      rw [eq1] at hs7
      have FQ : Hid (∀ wx, Below w7.heap.size w7 wx → Calls Tryd.prog 10 #[.slice A7 (n + 1) (n + 1)] wx fun e w' => e = .returned (.string (strOf (dgB (m / 10)))) ∧ Below wx.heap.size wx w') := hide fun wx hb => by
        have hbw := bl_step hB7 hb
        have h := format_any (n + 1) ((m / 10 : Nat) : Int) HF2.out (by omega) (by omega) A7 (n + 1) wx ((hs7.any.below hb).more hb.size) (words_at HW.out.1 HW.out.2 hbw).1 (words_at HW.out.1 HW.out.2 hbw).2
        rw [txt_str, txt_nat] at h
        exact h
      rw [er1]
      obtain ⟨r, hr⟩ : ∃ r, r = m % 10 := ⟨_, rfl⟩
      have hr10 : r < 10 := by omega
      obtain ⟨b8, hb8⟩ : ∃ b8 : UInt8, b8 = UInt8.ofNat (48 + m % 10) := ⟨_, rfl⟩
      have TZ : Hid (∀ wx, Calls Tryd.prog 18 #[.string (strOf (dgB (m / 10) ++ [b8])), .string { data := #[48] }] wx fun e w' => e = .returned (.string (strOf (dgB m))) ∧ wx = w') := hide fun wx => by
        have h := trimZero_any (dgB (m / 10) ++ [b8]) wx
        rw [hb8, trim_digits] at h
        rw [hb8]; exact h
      have HCV : Hid (∀ (wx : World) (gx : Nat), wx.cell? ⟨gx, 0, none⟩ = some (.int .u8 (48 + (r : Int))) → (convert 40 9 (.slice (some ⟨gx, 0, none⟩) 1 1)).run Tryd.prog wx = .ok (.string (strOf [b8])) wx) := hide fun wx gx hc => by
        have CV := conv_bytes wx (gx + 1) (some ⟨gx, 0, none⟩) [48 + (r : Int)] 1 (Sl.mk (by omega) fun j u hu => by
          rw [Nat.zero_add]
          cases j with
          | zero => simp [byCells] at hu; rw [← hu]; exact hc
          | succ j => simp [byCells] at hu)
        rw [strOfNums_one, hr, ← hb8] at CV
        exact CV
      rw [← hr]
      have f0 : (r : Int).tmod 10 = (r : Int) := by rw [Int.tmod_eq_emod_of_nonneg (by omega)]; omega
      have f00 : (r : Int) % 10 = (r : Int) := by omega
      have f1 : IntKind.u8.wrap (r : Int) = (r : Int) := by simp [IntKind.wrap, IntKind.signed, IntKind.bits]; omega
      have f2 : IntKind.u8.wrap (48 + (r : Int)) = 48 + (r : Int) := by simp [IntKind.wrap, IntKind.signed, IntKind.bits]; omega
      have HST : Hid (strOf (dgB (m / 10)) ++ strOf [b8] = strOf (dgB (m / 10) ++ [b8])) := hide (strOf_app _ _)
      have z1 : (strOf [b8]).size = 1 := strOf_size _
      have hNE : (strOf (dgB m)).toList.isEmpty = false := by
        rw [strOf_toList]
        cases hd : dgB m with
        | nil => exact absurd hd (dgB_ne m)
        | cons a t => rfl
      have z2 : (strOf (dgB (m / 10))).size ≤ 1000 := by
        rw [strOf_size]
        refine dgB_len ?_
        have h1 := HF2.out.2
        rw [W64_nat] at h1
        have h2 : m / 10 < 65536 ^ (4 * (n + 1)) := by omega
        exact Nat.le_trans (digs_len h2) (by omega)
      obtain ⟨S1, hS1⟩ : ∃ S1, S1 = strOf (dgB (m / 10)) := ⟨_, rfl⟩
      obtain ⟨S2, hS2⟩ : ∃ S2, S2 = strOf [b8] := ⟨_, rfl⟩
      obtain ⟨S3, hS3⟩ : ∃ S3, S3 = strOf (dgB m) := ⟨_, rfl⟩
      obtain ⟨S4, hS4⟩ : ∃ S4, S4 = strOf (dgB (m / 10) ++ [b8]) := ⟨_, rfl⟩
      rw [← hS1] at FQ HST z2
      rw [← hS2] at HCV HST z1
      rw [← hS3] at TZ hNE ⊢
      rw [← hS4] at TZ HST
      clear hs7 eq1 er1 hr hb8 hS1 hS2 hS3 hS4
      have hr10i : (r : Int) < 10 := by omega
      go_upto_region 6 with fail
      go_cut [7] from 29 to 38 (fun t wc => t = .string S3 ∧ Below w7.heap.size w7 wc)
      · have hcv := HCV.out
        have hst := HST.out
        clear hst
        go_region_with (first
          | (go_at_call 10; refine (FQ.out _ (by first | exact bl_drew (Below.refl _ _) | exact bl_drew (bl_alloc (Below.refl _ _) _) | exact bl_alloc (bl_drew (Below.refl _ _)) _)).mono ?_; rintro e w8 ⟨rfl, hb8⟩; try have hc8 := (((Blk.new w7 5 #[.int .u8 (48 + (r : Int))]).drew).step hb8).cell (i := 0) rfl)
          | (go_at_call 18; rw [HST.out]; refine (TZ.out _).mono ?_; rintro e w9 ⟨rfl, rfl⟩))
        all_goals
          go_wp2_with fail
          go_meet
          refine ⟨rfl, ?_⟩
          first
            | exact bl_alloc (below_of_drew hb8) _
            | exact (bl_drew (bl_alloc (Below.refl _ _) _)).trans (hb8.mono (by simp))
            | exact (bl_alloc (bl_drew (Below.refl _ _)) _).trans (hb8.mono (by simp))
      · obtain ⟨rfl, hb8⟩ := hcut
        have hB8 := bl_step hB7 hb8
        go_wp2_with fail
        refine (AL.out _ hB8).mono ?_
        rintro e w9 ⟨rfl, hb9⟩
        have hB9 := bl_step hB8 hb9
        go_wp2
        go_ret
        exact ⟨rfl, hB9⟩
  · rw [decide_eq_false hn] at IS
    have HI := hide IS
    clear IS hs hu hn hw hwg
    go_enter Tryd.func8, Tryd.ntmps8
    go_wp2_with fail
    refine HI.out.mono ?_
    rintro e w' ⟨rfl, rfl⟩
    go_wp2_with fail
    refine (AL.out _ (Below.refl _ _)).mono ?_
    rintro e w1 ⟨rfl, hb1⟩
    go_wp2
    go_ret
    exact ⟨rfl, hb1⟩
end Go.Proofs.YthdpbmpdiaencaaDoor
