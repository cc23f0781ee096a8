/- decimal.Format on the limbs of a number. -/
import Derived.Test.YthdpbmpdiaencaaDoorDecLib2
import Derived.Test.YthdpbmpdiaencaaDoorDivSmall
import Derived.Outline
namespace Go.Proofs.YthdpbmpdiaencaaDoor
open Go.RowKit

/-- a scope with a label that is come to and jumped back to: the code behind the label is walked once -/
theorem wp_scope_label {P : Program} {c rest : Code} {Q : Exit → Act → World → Prop} {a : Act} {w : World} (l : Nat) (J : Act → World → Prop) (μ : Act → World → Nat) (hf : findLabel c l = some (Code.skip.seq rest))
    (pass : ∀ a w, J a w → rest.wp P (Exit.jump l (fun a' w' => J a' w' ∧ μ a' w' < μ a w) Q) a w)
    (first : (∀ a w, J a w → rest.wp P (Exit.jump l J Q) a w) → c.wp P (Exit.jump l J Q) a w) : (Code.scope c).wp P Q a w :=
  wp_scope_jumps l J μ hf (first fun a w h => wp_mono (pass a w h) fun e a' w' q => by
    cases e with
    | goto l' => exact ⟨q.1, q.2.1⟩
    | _ => exact q) fun a w h => wp_seq (wp_skip (pass a w h))
/-- digits as bytes -/
def asc (l : List Nat) : List Int := l.map fun (d : Nat) => (48 : Int) + (d : Int)
theorem fmtI_pos {v : Int} (h : 0 ≤ v) : fmtI v = (asc (dr v.natAbs)).reverse := by
  unfold fmtI asc
  rw [if_neg (by omega), List.nil_append, List.map_reverse]
theorem fmtI_neg {v : Int} (h : v < 0) : fmtI v = (asc (dr v.natAbs) ++ [45]).reverse := by
  unfold fmtI asc
  rw [if_pos h, List.map_reverse]; simp
set_option maxRecDepth 100000 in
theorem digit_index (d : Int) (d0 : 0 ≤ d) (d1 : d < 10) (w : World) : (Instr.index 9 (.string { data := #[48, 49, 50, 51, 52, 53, 54, 55, 56, 57] }) (.int .u64 d)).run Tryd.prog w = .ok (.int .u8 (48 + d)) w := by
  have h : d = 0 ∨ d = 1 ∨ d = 2 ∨ d = 3 ∨ d = 4 ∨ d = 5 ∨ d = 6 ∨ d = 7 ∨ d = 8 ∨ d = 9 := by omega
  rcases h with rfl | rfl | rfl | rfl | rfl | rfl | rfl | rfl | rfl | rfl <;> rfl
theorem u8_inf : (Tryd.prog.info? 5).map (fun i => (i.zero, i.size, i.bytes)) = some (some (.int .u8 0), 1, 1) := by kernel_rfl
theorem lims_any (n : Nat) (m : Nat) (h : (m : Int) < (18446744073709551616 : Int) ^ n) : ((lims n (m : Int)).any fun x => !(x == 0)) = !(decide (m = 0)) := by
  by_cases h0 : m = 0
  · subst h0
    rw [show ((0 : Nat) : Int) = 0 from rfl, lims_zeros]
    simp
  · rw [decide_eq_false h0, Bool.not_false, List.any_eq_true]
    by_cases hall : ∀ x ∈ lims n (m : Int), x = 0
    · exfalso
      have h1 : lims n (m : Int) = List.replicate n 0 := List.eq_replicate_iff.2 ⟨lims_length _ _, hall⟩
      have h2 := congrArg valL h1
      rw [← lims_zeros, valL_lims, valL_lims, Int.emod_eq_of_lt (by omega) h] at h2
      simp at h2
      exact h0 h2
    · have : ∃ x, x ∈ lims n (m : Int) ∧ x ≠ 0 := by
        rw [← Classical.not_forall_not]
        intro hh
        exact hall fun x hx => Classical.byContradiction fun hx0 => hh x ⟨hx, hx0⟩
      obtain ⟨x, hx, hx0⟩ := this
      exact ⟨x, hx, by simp [hx0]⟩
/-- what holds at the label -/
def FmtJ (w : World) (n N : Nat) (neg : Bool) (a' : Act) (w' : World) : Prop :=
  ∃ (A : Option Addr) (c m : Nat) (O u5 u6 u7 u8 u9 u10 u11 u12 u13 u14 u15 u16 u17 u18 u19 u20 u21 u22 u23 u24 u25 u26 u27 u28 u29 u30 u31 u32 u33 u34 u35 u36 u37 u38 u39 : Value) (A' : Option Addr) (c' : Nat) (ys : List Int),
    a' = { tmps := #[.slice A n c, undef, .string { data := #[] }, .bool neg, O, u5, u6, u7, u8, u9, u10, u11, u12, u13, u14, u15, u16, u17, u18, u19, u20, u21, u22, u23, u24, u25, u26, u27, u28, u29, u30, u31, u32, u33, u34, u35, u36, u37, u38, u39], defers := [] } ∧
    O = .slice A' ys.length c' ∧ Sl w' w'.heap.size A (uCs (lims n (m : Int))) ∧ (m : Int) < (18446744073709551616 : Int) ^ n ∧ Below w.heap.size w w' ∧ w'.ownsRow w.heap.size 5 1 (.slice A' ys.length c') ys.length (byCells ys) ∧ ys ++ asc (dr m) = asc (dr N)
set_option maxRecDepth 100000 in
set_option maxHeartbeats 4000000 in
theorem format_any (n : Nat) (v : Int) (hf : Fits n v) (hn : 1 ≤ n) (hn8 : n ≤ 8) (A : Option Addr) (c : Nat) (w : World) (hs : Sl w w.heap.size A (uCs (lims n v))) (hw : MWords w) (hwg : 2 < w.heap.size) :
    Calls Tryd.prog 10 #[.slice A n c] w fun e w' => e = .returned (.string (strOfNums (fmtI v))) ∧ Below w.heap.size w w' := by
  have SG := lsign_any n v hf hn hn8 A c w hs hw hwg
  have HSG := hide SG
  have HS := hide hs
  have HF := hide hf
  have hN : (v.natAbs : Int) < (18446744073709551616 : Int) ^ n := by
    obtain ⟨h1, h2⟩ := hf
    have := W64_pos n
    generalize (18446744073709551616 : Int) ^ n = B at *
    omega
  have HN := hide hN
  have hdl : (dr v.natAbs).length ≤ 155 := by
    have h2 := dr_len (k := 154) (n := v.natAbs) (by
      have h3 : (18446744073709551616 : Int) ^ n ≤ (18446744073709551616 : Int) ^ 8 := by
        obtain ⟨d, hd⟩ := Nat.exists_eq_add_of_le hn8
        rw [hd, Int.pow_add]
        have h4 := W64_pos d
        have h5 := W64_pos n
        have := Int.mul_le_mul_of_nonneg_left (show (1 : Int) ≤ (18446744073709551616 : Int) ^ d by omega) (Int.le_of_lt h5)
        omega
      have h6 : (18446744073709551616 : Int) ^ 8 < 10 ^ 155 := by decide
      have h7 : (v.natAbs : Int) < 10 ^ 155 := by omega
      exact_mod_cast h7)
    exact h2
  have HD := hide hdl
  clear SG hs hf hw hN hdl
  have n1 : ¬ (n : Int) < 1 := by omega
  have n8 : ¬ (8 : Int) < (n : Int) := by omega
  go_enter Tryd.func10, Tryd.ntmps10
  go_wp2
  refine wp_scope_label 0 (FmtJ w n v.natAbs (decide (v < 0))) (fun a' _ => 155 - lenOf (a'.tmps.getD 4 undef)) rfl ?_ ?_
  · rintro a' w1 ⟨A, c, m, O, u5, u6, u7, u8, u9, u10, u11, u12, u13, u14, u15, u16, u17, u18, u19, u20, u21, u22, u23, u24, u25, u26, u27, u28, u29, u30, u31, u32, u33, u34, u35, u36, u37, u38, u39, A', c', ys, rfl, rfl, hs, hm, hb1, hown, hys⟩
    have DS := divSmall_any n m 10 hn hn8 (by omega) hm (by decide) (by decide) A c w1 hs
    have hyl := congrArg List.length hys
    rw [List.length_append] at hyl
    unfold asc at hyl
    rw [List.length_map, List.length_map] at hyl
    have hdl := HD.out
    have hyb : ys.length ≤ 155 := by omega
    have hdn : 0 < (dr m).length := List.length_pos_iff.2 (dr_ne m)
    have HDS := hide DS; have HO := hide hown; have HY := hide hys; have HM := hide hm
    clear DS hown hs hys hm
    go_wp2_with fail
    refine HDS.out.mono ?_
    rintro e w2 ⟨A2, rfl, hb2, hs2⟩
    have hown2 := own_step HO.out hb2
    have hd0 : (0 : Int) ≤ (m : Int) % 10 := by omega
    have hd1 : (m : Int) % 10 < 10 := by omega
    have hdx := fun wx => digit_index ((m : Int) % 10) hd0 hd1 wx
    have eq1 : (m : Int) / 10 = ((m / 10 : Nat) : Int) := by omega
    have ed1 : (48 : Int) + (m : Int) % 10 = (48 : Int) + ((m % 10 : Nat) : Int) := by omega
    rw [eq1] at hs2
    have HS2 := hide hs2
    have hB2 := bl_step hb1 hb2
    have hB2z := hB2.size
    obtain ⟨i0, hi, hz0, hz1, hz2⟩ := info_parts u8_inf
    clear eq1 hs2
    go_wp2_with (at_builtin; refine wpList_append_own _ rfl (.tmp 25) (.tmp 28) 40 rfl w.heap.size 5 i0 (.int .u8 0) 1 1 Tryd.underlying40 hi hz0 hz1 hz2 rfl (by decide) _ ys.length (byCells ys) rfl (hown2.alloc _) ⟨w2.heap.size, 0, none⟩ 1 1 [.int .u8 (48 + (m : Int) % 10)] rfl rfl ?d1 ?d2 ?d3 ?d4 ?d5 ?_)
    case d1 => first | exact fun _ _ h => h | exact blk_cells (Blk.new _ _ _)
    case d2 => simp [Value.oneCell']
    case d3 => unfold maxLen; omega
    case d4 => omega
    case d5 => first | omega | (simp; omega)
    intro v3 w3 hown3 hgrow3 _
    have hb3 : Below w.heap.size w w3 := (hB2.alloc hB2.size _).grown hgrow3 (by simp; have := hB2.size; omega) (fun k hk => own_base hown2 hk)
    have hown4 : w3.ownsRow w.heap.size 5 1 v3 (ys.length + 1) (byCells (ys ++ [48 + (m : Int) % 10])) := by
      have e : byCells (ys ++ [48 + (m : Int) % 10]) = byCells ys ++ [.int .u8 (48 + (m : Int) % 10)] := by simp [byCells]
      rw [e]; exact hown3
    obtain ⟨A3, c3, rfl, _⟩ := own_slice hown4
    have hm10 : ((m / 10 : Nat) : Int) < (18446744073709551616 : Int) ^ n := by
      have := HM.out
      omega
    have hsl3 : Sl w3 w3.heap.size A2 (uCs (lims n ((m / 10 : Nat) : Int))) := by
      refine SlN.any (HS2.out.at_ fun k hk hlt => ?_)
      rw [hgrow3.block k (by simp; omega) (fun e => by have := own_lt HO.out e.symm; omega)]
      exact Below.heap_alloc _ _ _ hlt
    have CT := containsU_any 22 (fun a wx => by kernel_rfl) _ nz1_any A2 n (lims n ((m / 10 : Nat) : Int)) w3 hsl3 (by rw [lims_length]; unfold maxLen; omega)
    rw [lims_length, lims_any n (m / 10) hm10] at CT
    have HCT := hide CT
    have HO4 := hide hown4; have HSL := hide hsl3; have HM10 := hide hm10
    clear CT hown4 hown3 hgrow3 hsl3 hm10 hdx hi hz0 hz1 hz2
    go_wp2_with fail
    refine HCT.out.mono ?_
    rintro e w' ⟨rfl, rfl⟩
    by_cases hq : m / 10 = 0
    · rw [decide_eq_true hq]
      have hdr : dr m = [m % 10] := by rw [dr_small (by omega), show m % 10 = m by omega]
      have hys2 : ys ++ [48 + (m : Int) % 10] = asc (dr v.natAbs) := by
        rw [← HY.out, hdr]; simp [asc]
      rw [hys2] at HO4
      have hyl2 : ys.length + 1 = (asc (dr v.natAbs)).length := by rw [← hys2]; simp
      obtain ⟨g3, cap3, hv3, hg3, hlt3, hcap3⟩ := own_form HO4.out (by omega)
      injection hv3 with hA3 _ hc3
      subst hA3 hc3
      by_cases hv : v < 0
      · obtain ⟨i0, hi, hz0, hz1, hz2⟩ := info_parts u8_inf
        have hb3z := hb3.size
        rw [decide_eq_true hv]
        have hys3 := HO4.out
        have hyn : ys.length + 1 ≤ 156 := by omega
        clear hyl2
        go_wp2_with (at_builtin; refine wpList_append_own _ rfl (.tmp 33) (.tmp 34) 40 rfl w.heap.size 5 i0 (.int .u8 0) 1 1 Tryd.underlying40 hi hz0 hz1 hz2 rfl (by decide) _ (ys.length + 1) (byCells (asc (dr v.natAbs))) rfl (hys3.alloc _) ⟨w3.heap.size, 0, none⟩ 1 1 [.int .u8 45] rfl rfl ?d1 ?d2 ?d3 ?d4 ?d5 ?_)
        case d1 => first | exact fun _ _ h => h | exact blk_cells (Blk.new _ _ _)
        case d2 => simp [Value.oneCell']
        case d3 => unfold maxLen; omega
        case d4 => omega
        case d5 => first | omega | (simp; omega)
        intro v5 w5 hown5 hgrow5 _
        have hb5 : Below w.heap.size w w5 := (hb3.alloc hb3z _).grown hgrow5 (by simp; omega) (fun k hk => own_base hys3 hk)
        have hown6 : w5.ownsRow w.heap.size 5 1 v5 (asc (dr v.natAbs) ++ [45]).length (byCells (asc (dr v.natAbs) ++ [45])) := by
          have e : byCells (asc (dr v.natAbs) ++ [45]) = byCells (asc (dr v.natAbs)) ++ [.int .u8 45] := by simp [byCells]
          have e2 : (asc (dr v.natAbs) ++ [45]).length = ys.length + 1 + 1 := by rw [← hys2]; simp
          rw [e, e2]; exact hown5
        obtain ⟨g5, cap5, hv5, hg5, hlt5, hcap5⟩ := own_form hown6 (by simp)
        have hl5 : (asc (dr v.natAbs) ++ [45]).length = ys.length + 1 + 1 := by rw [← hys2]; simp
        rw [hl5] at hv5
        subst hv5
        have RV := reverse_any w.heap.size (asc (dr v.natAbs) ++ [45]) g5 cap5 w5 (Below.refl _ _) (by rw [hl5] at hown6 ⊢; exact hown6)
        rw [hl5] at RV
        have HRV := hide RV
        have HL5 := hide hl5
        clear RV hl5 hown6 hown5 hgrow5 hi hz0 hz1 hz2 hys3
        have hlen : ((ys.length + 1 + 1 : Nat) : Int) = (ys.length : Int) + 1 + 1 := by omega
        clear hlen
        go_wp2_with fail
        refine HRV.out.mono ?_
        rintro e w6 ⟨rfl, hb6, hown7⟩
        have CV := conv_bytes w6 _ (some ⟨g5, 0, none⟩) (asc (dr v.natAbs) ++ [45]).reverse cap5 (Sl.of_own hown7)
        rw [List.length_reverse, HL5.out, ← fmtI_neg hv] at CV
        have HB6 := hb5.trans hb6
        clear hown7
        go_wp2
        go_ret
        exact ⟨rfl, HB6⟩
      · rw [decide_eq_false hv]
        have RV := reverse_any w.heap.size (asc (dr v.natAbs)) g3 c3 w3 (Below.refl _ _) (by rw [← hyl2]; exact HO4.out)
        rw [← hyl2] at RV
        have HRV := hide RV
        have HL5 := hide hyl2
        clear RV hyl2
        go_wp2_with fail
        refine HRV.out.mono ?_
        rintro e w6 ⟨rfl, hb6, hown7⟩
        have CV := conv_bytes w6 _ (some ⟨g3, 0, none⟩) (asc (dr v.natAbs)).reverse c3 (Sl.of_own hown7)
        rw [List.length_reverse, ← HL5.out, ← fmtI_pos (by omega)] at CV
        have HB6 := hb3.trans hb6
        clear hown7
        go_wp2
        go_ret
        exact ⟨rfl, HB6⟩
    · rw [decide_eq_false hq]
      have hdr : dr m = m % 10 :: dr (m / 10) := dr_big (by omega)
      have hys2 : (ys ++ [48 + (m : Int) % 10]) ++ asc (dr (m / 10)) = asc (dr v.natAbs) := by
        rw [← HY.out, hdr]; simp [asc]
      have HY2 := hide hys2
      clear hys2
      go_wp2
      go_step3
      go_wp2
      refine jump_goto ⟨?_, ?_⟩
      · exact ⟨A2, n, m / 10, _, _, _, _, _, _, _, _, _, _, _, _, _, _, _, _, _, _, _, _, _, _, _, _, _, _, _, _, _, _, _, _, _, _, _, _, A3, c3, ys ++ [48 + (m : Int) % 10], rfl, by simp, HSL.out, HM10.out, hb3, by simpa using HO4.out, HY2.out⟩
      · simp [lenOf]; omega
  · intro PF
    have HPF := hide PF
    clear PF
    go_wp2_with fail
    refine HSG.out.mono ?_
    rintro e w1 ⟨rfl, hb1⟩
    have hs1 := (HS.out.below hb1).more hb1.size
    have HS1 := hide hs1
    clear hs1
    by_cases hv : v < 0
    · have hsg := Int.sign_eq_neg_one_of_neg hv
      rw [hsg]
      have NG := hide (lneg_any n v hn hn8 A c w1 HS1.out)
      go_wp2_with fail
      refine NG.out.mono ?_
      rintro e w2 ⟨A2, c2, rfl, hb2, hs2⟩
      rw [show -v = ((v.natAbs : Nat) : Int) by omega] at hs2
      have HS2 := hide hs2
      have HB2 := bl_step hb1 hb2
      clear hs2
      rw [lims_length]
      have hdt : decide (v < 0) = true := decide_eq_true hv
      have HDT := hide hdt
      clear hdt
      go_wp2
      go_step3
      rename_i hK
      refine hK _ _ ?_
      refine HPF.out _ _ ?_
      rw [HDT.out]
      exact (⟨A2, c2, v.natAbs, _, _, _, _, _, _, _, _, _, _, _, _, _, _, _, _, _, _, _, _, _, _, _, _, _, _, _, _, _, _, _, _, _, _, _, _, none, 0, [], rfl, rfl, HS2.out, HN.out, HB2, ⟨rfl, .inl ⟨rfl, rfl⟩⟩, rfl⟩)
    · have hsg : ¬ v.sign < 0 := by
        have := Int.sign_nonneg_iff.2 (show 0 ≤ v by omega)
        omega
      have hdt : decide (v < 0) = false := decide_eq_false hv
      have HDT := hide hdt
      clear hdt
      have hvn : lims n v = lims n ((v.natAbs : Nat) : Int) := by rw [show ((v.natAbs : Nat) : Int) = v by omega]
      rw [hvn] at HS1
      have HV := hide hvn
      clear hvn
      go_wp2
      go_step3
      rename_i hK
      refine hK _ _ ?_
      refine HPF.out _ _ ?_
      rw [HDT.out]
      exact (⟨A, c, v.natAbs, _, _, _, _, _, _, _, _, _, _, _, _, _, _, _, _, _, _, _, _, _, _, _, _, _, _, _, _, _, _, _, _, _, _, _, _, none, 0, [], rfl, rfl, HS1.out, HN.out, hb1, ⟨rfl, .inl ⟨rfl, rfl⟩⟩, rfl⟩)
end Go.Proofs.YthdpbmpdiaencaaDoor
