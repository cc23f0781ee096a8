/- The reference's integer of a text. -/
import Derived.Test.YthdpbmpdiaencaaDoorRefFits
import Derived.Deep.CutBlock
namespace Go.Proofs.YthdpbmpdiaencaaDoor
open Go.RowKit

theorem extract_tail (s : ByteArray) (a : UInt8) (t : List UInt8) (h : s.data.toList = a :: t) : s.extract 1 s.size = strOf t := by
  apply ByteArray.ext
  rw [ByteArray.data_extract]
  have hs : s.size = t.length + 1 := by
    show s.data.size = _
    rw [← Array.length_toList, h]; simp
  apply Array.ext'
  rw [Array.toList_extract, h, hs]
  simp [strOf, List.extract]
theorem index_at {D : List UInt8} {T : ByteArray} (hT : T = strOf D) {k : Nat} {b : UInt8} (hb : D[k]? = some b) (w : World) :
    (Instr.index 9 (.string T) (.int .i64 (k : Int))).run Tryd.prog w = .ok (.int .u8 (b.toNat : Int)) w := by
  have hk : k < T.size := by rw [hT, strOf_size]; exact (List.getElem?_eq_some_iff.1 hb).1
  have h := strOf_get hT hb hk
  have hk2 : (k : Int) < (T.size : Int) := by omega
  rw [run_index_string w _ _ _ _ Tryd.underlying9]
  simp [hk, h]
/-- what a region holds whose box is read and written -/
abbrev HeldR (w : World) (n0 g : Nat) (n : Int) (A : Option Addr) (c : Nat) (w' : World) : Prop :=
  (Below w.heap.size w w' ∧ n0 ≤ w'.heap.size ∧ R2 w' g ∧ NumAt w' (fun k => True ∧ k ≠ g) n A c) ∧ w'.cell? ⟨g, 0, none⟩ = some (Cw w' ⟨g, 0, none⟩) ∧ w'.cell? ⟨g, 1, none⟩ = some (Cw w' ⟨g, 1, none⟩) ∧ w'.frozen? ⟨g, 0, none⟩ = false ∧ w'.frozen? ⟨g, 1, none⟩ = false
section
variable {w wk w' : World} {n0 g : Nat} {n : Int} {A : Option Addr} {c : Nat}
theorem HeldR.mk' (hb : Below w.heap.size w w') (hn : n0 ≤ w'.heap.size) (hr : R2 w' g) (hN : NumAt w' (fun k => True ∧ k ≠ g) n A c) : HeldR w n0 g n A c w' := by
  have hr' := hr
  obtain ⟨u, v, hB⟩ := hr'
  exact ⟨⟨hb, hn, hr, hN⟩, Cw.of (hB.cell (i := 0) rfl), Cw.of (hB.cell (i := 1) rfl), hB.frozen 0, hB.frozen 1⟩
theorem HeldR.keep (h : HeldR w n0 g n A c wk) (hb : Below wk.heap.size wk w') : HeldR w n0 g n A c w' := by
  obtain ⟨⟨h0, hn, ⟨u, v, hB⟩, hN⟩, _⟩ := h
  exact HeldR.mk' (bl_step h0 hb) (Nat.le_trans hn hb.size) ⟨u, v, hB.step hb⟩ (hN.step hb)
theorem HeldR.set2 (h : HeldR w n0 g n A c wk) (hg : w.heap.size ≤ g) (x y : Value) : HeldR w n0 g n A c ((wk.setCell ⟨g, 0, none⟩ x).setCell ⟨g, 1, none⟩ y) := by
  obtain ⟨⟨h0, hn, ⟨u, v, hB⟩, hN⟩, _⟩ := h
  exact HeldR.mk' ((h0.setCell (by exact hg) _).setCell (by exact hg) _) (by simpa using hn) ⟨_, _, (hB.set 0 x).set 1 y⟩ ((hN.set _).set _)
theorem HeldR.big (h : HeldR w n0 g n A c wk) : n0 ≤ wk.heap.size := h.1.2.1
theorem HeldR.row (h : HeldR w n0 g n A c wk) : R2 wk g := h.1.2.2.1
theorem HeldR.num (h : HeldR w n0 g n A c wk) : NumAt wk (fun k => True ∧ k ≠ g) n A c := h.1.2.2.2
theorem HeldR.below (h : HeldR w n0 g n A c wk) : Below w.heap.size w wk := h.1.1
theorem nb_set {X : Int} {A' : Option Addr} {c' : Nat} (h : HeldR w n0 g n A c wk) (hN : NumAt wk (fun q => True ∧ q ≠ g) X A' c') (hg : w.heap.size ≤ g) :
    g < ((wk.setCell ⟨g, 0, none⟩ (.int .i64 X.sign)).setCell ⟨g, 1, none⟩ (.slice A' (digs X.natAbs).length c')).heap.size ∧ Below w.heap.size w ((wk.setCell ⟨g, 0, none⟩ (.int .i64 X.sign)).setCell ⟨g, 1, none⟩ (.slice A' (digs X.natAbs).length c')) ∧
    NB ((wk.setCell ⟨g, 0, none⟩ (.int .i64 X.sign)).setCell ⟨g, 1, none⟩ (.slice A' (digs X.natAbs).length c')) (fun q => True ∧ q ≠ g) g X := by
  obtain ⟨⟨h0, hn, ⟨u, v, hB⟩, -⟩, _⟩ := h
  have hB2 := (hB.set 0 (.int .i64 X.sign)).set 1 (.slice A' (digs X.natAbs).length c')
  exact ⟨hB2.lt, (h0.setCell (by exact hg) _).setCell (by exact hg) _, A', c', hB2, (hN.set _).set _⟩
theorem Cw.eq {a : Addr} {v : Value} (h : w.cell? a = some v) : Cw w a = v := by unfold Cw; rw [h]; rfl
end
theorem numU_digs {D : List UInt8} (hg : D.all isD = true) (hl : D.length ≤ 160) (k : Nat) : (digs (numU (D.take k))).length ≤ 40 := by
  have hg2 : (D.take k).all isD = true := by
    rw [List.all_eq_true] at hg ⊢
    exact fun b hb => hg b (List.mem_of_mem_take hb)
  have h1 := dvR_lt (((D.take k).map fun b => b.toNat - 48).reverse) (fun d hd => by
    obtain ⟨b, hb, rfl⟩ := List.mem_map.1 (List.mem_reverse.1 hd)
    have h2 := List.all_eq_true.1 hg2 b hb
    unfold isD at h2
    simp only [Bool.and_eq_true, decide_eq_true_eq] at h2
    omega)
  rw [← dv_dvR, List.length_reverse, List.length_map] at h1
  have hl2 : (D.take k).length ≤ 160 := by rw [List.length_take]; omega
  have h4 : 10 ^ (D.take k).length ≤ 10 ^ 160 := Nat.pow_le_pow_right (by decide) hl2
  have h5 : (10 : Nat) ^ 160 < 65536 ^ 40 := by decide +kernel
  exact digs_len (Nat.lt_of_lt_of_le h1 (Nat.le_trans h4 (Nat.le_of_lt h5)))
set_option maxRecDepth 100000 in
set_option maxHeartbeats 4000000 in
theorem rparse_any (s : ByteArray) (n : Int) (hs : s.size ≤ 1000) (w : World) :
    Calls Tryd.prog 13 #[.string s, .int .i64 n] w (Parsed10 s.data.toList n w) := by
  by_cases hn : n < 1 ∨ 8 < n
  · have he : pErr s.data.toList n = 2 := by unfold pErr; rw [if_pos hn]
    have HP : Hid (∀ e w', e = .returned (.tuple #[.slice none 0 0, .int .i64 2]) → Below w.heap.size w w' → Parsed10 s.data.toList n w e w') := hide fun e w' h hb => by
      unfold Parsed10
      rw [he]
      exact ⟨hb, .inr ⟨by decide, h⟩⟩
    by_cases h1 : n < 1
    · clear hn he
      go_enter Tryd.func13, Tryd.ntmps13
      go_wp2
      go_ret2
      exact HP.out _ _ rfl (Below.refl _ _)
    · have h8 : 8 < n := by omega
      clear hn he
      go_enter Tryd.func13, Tryd.ntmps13
      go_wp2
      go_ret2
      exact HP.out _ _ rfl (Below.refl _ _)
  · obtain ⟨m, rfl⟩ := Int.eq_ofNat_of_zero_le (show 0 ≤ n by omega)
    have hm1 : 1 ≤ m := by omega
    have hm8 : m ≤ 8 := by omega
    obtain ⟨D, hD⟩ : ∃ D, D = dgs s.data.toList := ⟨_, rfl⟩
    obtain ⟨T, hT⟩ : ∃ T, T = strOf D := ⟨_, rfl⟩
    have hdl : D.length ≤ s.data.toList.length := by rw [hD]; exact dgs_len _
    have hsl : s.data.toList.length = s.size := Array.length_toList
    have hts : T.size = D.length := by rw [hT, strOf_size]
    have h1 : ¬ (m : Int) < 1 := by omega
    have h8 : ¬ 8 < (m : Int) := by omega
    have hcase : (isNg s.data.toList = true ∧ 0 < s.size ∧ (∀ h : 0 < s.size, (s[0].toNat : Int) = 45) ∧ s.extract 1 s.size = T ∧ T.size < s.size) ∨
        (isNg s.data.toList = false ∧ s = T ∧ (∀ h : 0 < s.size, ¬ (s[0].toNat : Int) = 45)) := by
      cases hng : isNg s.data.toList with
      | true =>
        left
        obtain ⟨t, ht⟩ := (isNg_cons _).1 hng
        have hDt : D = t := by rw [hD, ht]; exact (dgs_ng t).1
        have hsz : s.size = t.length + 1 := by rw [← hsl, ht]; simp
        refine ⟨rfl, by omega, fun h => ?_, by rw [extract_tail s 45 t ht, hT, hDt], by rw [hts, hDt]; omega⟩
        have h3 := strOf_get (l := s.data.toList) (T := s) (i := 0) (b := 45) rfl (by rw [ht]; rfl) h
        rw [h3]; rfl
      | false =>
        right
        refine ⟨rfl, ?_, fun h h45 => ?_⟩
        · rw [hT, hD, dgs_pos hng]; rfl
        · cases hl : s.data.toList with
          | nil => rw [hl] at hsl; simp at hsl; omega
          | cons a t =>
            have h3 := strOf_get (l := s.data.toList) (T := s) (i := 0) (b := a) rfl (by rw [hl]; rfl) h
            rw [h3] at h45
            have ha : a = 45 := by
              rw [← UInt8.toNat_inj]
              show a.toNat = 45
              omega
            have : isNg s.data.toList = true := by rw [hl, ha]; exact (dgs_ng t).2
            rw [this] at hng; cases hng
    have HD := hide hD; have HT := hide hT; have HTS := hide hts; have HDL := hide hdl; have HSL := hide hsl; have HCS := hide hcase
    have HT1 : Hid (T.toList = D) := hide (by rw [hT, strOf_toList])
    obtain ⟨NG, hNG⟩ : ∃ NG, NG = isNg s.data.toList := ⟨_, rfl⟩
    have HNG := hide hNG
    have HP : Hid (∀ k e w', pErr s.data.toList (m : Int) = k → k ≠ 0 → e = .returned (.tuple #[.slice none 0 0, .int .i64 k]) → Below w.heap.size w w' → Parsed10 s.data.toList (m : Int) w e w') := hide fun k e w' hk hk0 h hb => by
      unfold Parsed10
      rw [hk]
      exact ⟨hb, .inr ⟨hk0, h⟩⟩
    have hpe : pErr s.data.toList (m : Int) = if ¬ goodT s.data.toList then 9 else if 160 < D.length then 3 else if Fits m (pVal s.data.toList) then 0 else 3 := by
      unfold pErr
      rw [if_neg hn, Int.toNat_natCast, hD]
    have HPE := hide hpe
    clear hn hD hT hdl hsl hcase hts hNG hpe
    go_enter Tryd.func13, Tryd.ntmps13
    go_upto_region 4 with fail
    go_cut [24] from 17 to 23 (fun b wc => b = .bool NG ∧ wc = w)
    · rcases HCS.out with ⟨hng, hsz, h45, -, -⟩ | ⟨hng, -, h45⟩
      · have h45 := h45 hsz
        have hg := hide hng
        clear hng
        go_wp2_with fail
        go_meet
        exact ⟨by rw [HNG.out, hg.out], rfl⟩
      · have hg := hide hng
        clear hng
        by_cases hsz : 0 < s.size
        · have h45 := h45 hsz
          have hb45 : ((s[0].toNat : Int) == 45) = false := by rw [beq_eq_false_iff_ne]; exact h45
          go_wp2_with fail
          go_meet
          exact ⟨by rw [HNG.out, hg.out], rfl⟩
        · have hsz0 : ¬ (0 : Int) < (s.size : Int) := by omega
          clear h45
          go_wp2_with fail
          go_meet
          exact ⟨by rw [HNG.out, hg.out], rfl⟩
    · obtain ⟨rfl, hwc⟩ := hcut
      subst hwc
      go_upto_if 24 with fail
      go_cut [6] from 10 to 26 (fun t wd => t = .string T ∧ wd = wc)
      · rcases HCS.out with ⟨hng, hsz, -, hex, -⟩ | ⟨hng, hst, -⟩
        · have hg : NG = true := by rw [HNG.out, hng]
          clear hng
          subst hg
          have hs1 : (1 : Nat) ≤ s.size := hsz
          go_wp2_with fail
          go_meet
          exact ⟨rfl, rfl⟩
        · have hg : NG = false := by rw [HNG.out, hng]
          have hst' := hide hst
          clear hng hst
          subst hg
          go_wp2_with fail
          go_meet
          exact ⟨by rw [← hst'.out], rfl⟩
      · obtain ⟨rfl, hwc⟩ := hcut
        subst hwc
        by_cases hbad : D = [] ∨ (D.head? = some 48 ∧ s.data.toList ≠ [48])
        · have h9 : pErr s.data.toList (m : Int) = 9 := by
            rw [HPE.out, if_pos]
            rintro ⟨g1, g2, g3⟩
            rw [← HD.out] at g1 g3
            rcases hbad with h | ⟨h, h'⟩
            · exact g1 h
            · exact h' (g3 h)
          have H9 := hide h9
          clear h9
          rcases hbad with h0 | ⟨h48, hne⟩
          · have he : T.toList.isEmpty = true := by rw [HT1.out, h0]; rfl
            clear h0
            go_wp2
            go_ret2
            exact HP.out 9 _ _ H9.out (by decide) rfl (Below.refl _ _)
          · have he : T.toList.isEmpty = false := by
              rw [HT1.out]
              cases D with
              | nil => simp at h48
              | cons a l => rfl
            have hsz : 0 < T.size := by
              rw [HTS.out]
              cases D with
              | nil => simp at h48
              | cons a l => simp
            have hc : (T[0].toNat : Int) = 48 := by
              rw [strOf_get (l := D) (b := 48) HT.out (by rw [← List.head?_eq_getElem?]; exact h48)]; rfl
            have hz : (!s.toList == [48]) = true := by
              rw [toList_data]
              simpa using hne
            clear h48 hne
            go_wp2
            go_ret2
            exact HP.out 9 _ _ H9.out (by decide) rfl (Below.refl _ _)
        · have hD0 : D ≠ [] := fun h => hbad (.inl h)
          have hz48 : D.head? = some 48 → s.data.toList = [48] := fun h => Classical.byContradiction fun h' => hbad (.inr ⟨h, h'⟩)
          have he : T.toList.isEmpty = false := by
            rw [HT1.out]
            cases D with
            | nil => exact absurd rfl hD0
            | cons a l => rfl
          have hsz : 0 < T.size := by rw [HTS.out]; exact List.length_pos_iff.2 hD0
          have hcz : ((T[0].toNat : Int) = 48 ∧ (!s.toList == [48]) = false) ∨ ((T[0].toNat : Int) == 48) = false := by
            by_cases hc : (T[0].toNat : Int) = 48
            · refine .inl ⟨hc, ?_⟩
              have h48 : D.head? = some 48 := by
                have h1 : 0 < D.length := List.length_pos_iff.2 hD0
                have h2 := List.getElem?_eq_getElem h1
                have h3 := strOf_get HT.out h2 hsz
                rw [List.head?_eq_getElem?, h2, ← h3]
                congr 1
                rw [← UInt8.toNat_inj]
                have : T[0].toNat = 48 := by omega
                exact this
              rw [toList_data, hz48 h48]; rfl
            · exact .inr (by rw [beq_eq_false_iff_ne]; exact hc)
          have HZ48 := hide hz48; have HD0 := hide hD0
          clear hbad hz48 hD0
          go_upto_region 6 with fail
          go_cut [37] from 27 to 36 (fun b wd => b = .bool false ∧ wd = wc)
          · rcases hcz with ⟨hc, hz⟩ | hc
            · go_wp2_with fail
              go_meet
              exact ⟨rfl, rfl⟩
            · go_wp2_with fail
              go_meet
              exact ⟨rfl, rfl⟩
          · obtain ⟨rfl, hwc⟩ := hcut
            subst hwc
            clear hcz
            rename World => wz
            have hT1000 : T.size ≤ 1000 := by rw [HTS.out]; exact Nat.le_trans HDL.out (by rw [HSL.out]; exact hs)
            go_upto_block 0 with fail
            by_cases hall : D.all isD = true
            · go_cut [7] from 38 to 53 (fun _ wd => wd = wz)
              · go_wp2_with fail
                go_loopw [7] (fun i wr => ∃ k : Nat, k ≤ T.size ∧ i = .int .i64 k ∧ wr = wz)
                  (fun i _ => T.size - (intOf i).toNat)
                case atStart => exact ⟨0, by omega, rfl, rfl⟩
                case round =>
                  obtain ⟨k, hk, rfl, rfl⟩ := hrel
                  by_cases hlt : k < T.size
                  · obtain ⟨b, hb⟩ : ∃ b, D[k]? = some b := ⟨_, List.getElem?_eq_getElem (by have := HTS.out; omega)⟩
                    have hix := fun wx => index_at HT.out hb wx
                    have hisd := List.all_eq_true.1 hall b (List.mem_of_getElem? hb)
                    unfold isD at hisd
                    simp only [Bool.and_eq_true, decide_eq_true_eq] at hisd
                    have i1 : ¬ (b.toNat : Int) < 48 := by omega
                    have i2 : ¬ (57 : Int) < (b.toNat : Int) := by omega
                    have hkl : (k : Int) < (T.size : Int) := by omega
                    clear hb hisd hall
                    go_wp2
                    go_roundw
                    case rel => exact ⟨k + 1, by omega, by go_num, by first | trivial | rfl⟩
                    case measure => simp [intOf]; omega
                  · have hkl : ¬ (k : Int) < (T.size : Int) := by omega
                    go_wp2
                    go_meet
                    first | trivial | rfl
              · have hwc := hcut
                subst hwc
                have hg : goodT s.data.toList := ⟨by rw [← HD.out]; exact HD0.out, by rw [← HD.out]; exact hall, by rw [← HD.out]; exact HZ48.out⟩
                have HG := hide hg; have HALL := hide hall
                clear hg hall
                by_cases h160 : 160 < (T.size : Int)
                · have h3 : pErr s.data.toList (m : Int) = 3 := by
                    rw [HPE.out, if_neg (fun h => h HG.out), if_pos (by have := HTS.out; omega)]
                  have H3 := hide h3
                  clear h3
                  go_wp2
                  go_ret2
                  exact HP.out 3 _ _ H3.out (by decide) rfl (Below.refl _ _)
                · have hD160 : D.length ≤ 160 := by have := HTS.out; omega
                  have HD160 := hide hD160
                  rename World => wz
                  obtain ⟨w1, hw1⟩ : ∃ w1, w1 = wz.alloc (.cells #[.int .i64 0, .slice none 0 0] 49) := ⟨_, rfl⟩
                  have hb1 : Below wz.heap.size wz w1 := by rw [hw1]; exact bl_alloc (Below.refl _ _) _
                  obtain ⟨gb, hgb⟩ : ∃ gb, gb = wz.heap.size := ⟨_, rfl⟩
                  have X1 : Blk w1 gb 49 #[.int .i64 0, .slice none 0 0] := by rw [hw1, hgb]; exact Blk.new _ _ _
                  have hgz : wz.heap.size ≤ gb ∧ gb < w1.heap.size := ⟨by omega, X1.lt⟩
                  have N1 : NB w1 (fun q => True ∧ q ≠ gb) gb ((numU (D.take 0) : Nat) : Int) := by
                    refine ⟨none, 0, ?_, ?_⟩
                    · rw [List.take_zero]
                      show Blk w1 gb _ #[.int .i64 0, .slice none (digs 0).length 0]
                      rw [digs_zero]; exact X1
                    · rw [List.take_zero]
                      unfold NumAt
                      show SlN w1 _ none (dCs (digs 0)) ∧ (digs 0).length ≤ 0 ∧ _
                      rw [digs_zero]
                      exact ⟨.inl rfl, by simp, by unfold maxLen; omega⟩
                  have HN1 := hide N1; have HB1 := hide hb1; have HGB := hide hgb
                  clear N1 X1 hb1 hD160
                  go_wp2
                  rw [← hw1, ← HGB.out]
                  clear hw1 hgb
                  go_loopw [9] (fun i wr => ∃ k : Nat, k ≤ T.size ∧ i = .int .i64 k ∧ gb < wr.heap.size ∧ Hid (Below wz.heap.size wz wr) ∧ Hid (NB wr (fun q => True ∧ q ≠ gb) gb ((numU (D.take k) : Nat) : Int)))
                    (fun i _ => T.size - (intOf i).toNat)
                  case atStart => exact ⟨0, by omega, rfl, hgz.2, HB1, HN1⟩
                  case round =>
                    obtain ⟨k, hk, rfl, hgr, HBr, HNr⟩ := hrel
                    by_cases hlt : k < T.size
                    · obtain ⟨b, hb⟩ : ∃ b, D[k]? = some b := ⟨_, List.getElem?_eq_getElem (by have := HTS.out; omega)⟩
                      have hix := fun wx => index_at HT.out hb wx
                      have hisd := List.all_eq_true.1 HALL.out b (List.mem_of_getElem? hb)
                      unfold isD at hisd
                      simp only [Bool.and_eq_true, decide_eq_true_eq] at hisd
                      obtain ⟨dn, hdn⟩ : ∃ dn, dn = b.toNat - 48 := ⟨_, rfl⟩
                      have hd9 : dn ≤ 9 := by omega
                      have e8 : IntKind.u8.wrap ((b.toNat : Int) - 48) = (dn : Int) := by
                        have : (b.toNat : Int) - 48 = (dn : Int) := by omega
                        rw [this]; simp [IntKind.wrap, IntKind.signed, IntKind.bits]; omega
                      have e64 : IntKind.i64.wrap (dn : Int) = (dn : Int) := by rw [IntKind.wrap_i64]; omega
                      obtain ⟨X, hX⟩ : ∃ X : Int, X = ((numU (D.take k) : Nat) : Int) := ⟨_, rfl⟩
                      have HSUM : Hid (X * 10 + (dn : Int) = ((numU (D.take (k + 1)) : Nat) : Int)) := hide (by
                        rw [numU_take hb, ← hdn, hX]; omega)
                      have hlX : (digs X.natAbs).length ≤ 40 := by
                        rw [hX]; exact numU_digs HALL.out HD160.out k
                      have hlM : (digs (X * 10).natAbs).length ≤ 41 := by
                        have h1 := digs_lt X.natAbs
                        have h2 : (65536 : Nat) ^ (digs X.natAbs).length ≤ 65536 ^ 40 := Nat.pow_le_pow_right (by decide) hlX
                        apply digs_len
                        rw [Int.natAbs_mul, Nat.pow_succ]
                        show X.natAbs * 10 < _
                        omega
                      have hN0 := HNr.out
                      rw [← hX] at hN0
                      obtain ⟨A, c, hBx, hNx⟩ := hN0
                      obtain ⟨sg, hsg⟩ : ∃ sg, sg = X.sign := ⟨_, rfl⟩
                      obtain ⟨L, hL⟩ : ∃ L, L = (digs X.natAbs).length := ⟨_, rfl⟩
                      obtain ⟨TEN, hTEN⟩ : ∃ TEN : Int, TEN = 10 := ⟨_, rfl⟩
                      obtain ⟨DG, hDG⟩ : ∃ DG : Int, DG = (dn : Int) := ⟨_, rfl⟩
                      obtain ⟨M, hM⟩ : ∃ M : Int, M = X * TEN := ⟨_, rfl⟩
                      obtain ⟨S, hS⟩ : ∃ S : Int, S = M + DG := ⟨_, rfl⟩
                      have HSS : Hid (S = ((numU (D.take (k + 1)) : Nat) : Int)) := hide (by rw [hS, hM, hTEN, hDG]; exact HSUM.out)
                      have hup : ∀ wk : World, gb + 1 ≤ wk.heap.size → Up wk (fun q => True ∧ q ≠ gb) := fun wk h q hq => ⟨trivial, by omega⟩
                      have HI10 : Hid (∀ wk : World, gb + 1 ≤ wk.heap.size → Calls Tryd.prog 34 #[.int .i64 10] wk (GaveR (fun q => True ∧ q ≠ gb) TEN wk)) := hide fun wk h => by
                        rw [hTEN]
                        exact int_any _ 10 (by omega) wk (hup wk h)
                      have HID : Hid (∀ wk : World, gb + 1 ≤ wk.heap.size → Calls Tryd.prog 34 #[.int .i64 (dn : Int)] wk (GaveR (fun q => True ∧ q ≠ gb) DG wk)) := hide fun wk h => by
                        rw [hDG]
                        exact int_any _ (dn : Int) (by omega) wk (hup wk h)
                      have HMU : Hid (∀ (wk : World) (B : Option Addr) (d : Nat) (v0 v1 : Value), v0 = .int .i64 sg → v1 = .slice A L c → gb + 1 ≤ wk.heap.size → NumAt wk (fun q => True ∧ q ≠ gb) X A c → NumAt wk (fun q => True ∧ q ≠ gb) TEN B d →
                          Calls Tryd.prog 33 #[.agg #[v0, v1], .agg #[.int .i64 TEN.sign, .slice B (digs TEN.natAbs).length d]] wk (GaveR (fun q => True ∧ q ≠ gb) M wk)) := hide fun wk B d v0 v1 h0 h1 hk hx hn => by
                        subst h0 h1
                        have h := mul_any (fun q => True ∧ q ≠ gb) X TEN A B c d wk hx hn (by omega) (by rw [hTEN]; exact Nat.le_trans (digs_len (k := 1) (by decide)) (by decide)) (hup wk hk)
                        rw [hsg, hL, hM]
                        exact h
                      have HAD : Hid (∀ (wk : World) (A' : Option Addr) (c' : Nat) (B : Option Addr) (d : Nat), gb + 1 ≤ wk.heap.size → NumAt wk (fun q => True ∧ q ≠ gb) M A' c' → NumAt wk (fun q => True ∧ q ≠ gb) DG B d →
                          Calls Tryd.prog 32 #[.agg #[.int .i64 M.sign, .slice A' (digs M.natAbs).length c'], .agg #[.int .i64 DG.sign, .slice B (digs DG.natAbs).length d]] wk (GaveR (fun q => True ∧ q ≠ gb) S wk)) := hide fun wk A' c' B d hk hx hn => by
                        have h := add_any (fun q => True ∧ q ≠ gb) M DG A' B c' d wk hx hn (by rw [hM, hTEN]; omega) (by rw [hDG]; exact Nat.le_trans (digs_len (k := 1) (by show dn < _; omega)) (by decide)) (hup wk hk)
                        rw [hS]
                        exact h
                      have h00 : HeldR wz (gb + 1) gb X A c wr := HeldR.mk' HBr.out hgr ⟨_, _, hBx⟩ hNx
                      have hd0 := h00.keep (bl_drew (Below.refl _ _))
                      have hBd : Blk wr.drew gb 49 #[.int .i64 sg, .slice A L c] := by
                        rw [hsg, hL]; exact hBx.step (bl_drew (Below.refl _ _))
                      have e0 := hBd.cell (i := 0) rfl
                      have e1 := hBd.cell (i := 1) rfl
                      have e2 := h00.2.2.2.1
                      have e3 := h00.2.2.2.2
                      have HBD := hide hBd
                      have HH0 := hide hd0
                      clear hd0 h00
                      have hkl : (k : Int) < (T.size : Int) := by omega
                      have hgz1 := hgz.1
                      clear hb hisd hlX hlM hBx hNx hBd hX hM hS hTEN hDG hsg hL hup hdn HNr HSUM
                      go_wp2_with fail
                      go_region_with (first
                          | (go_at_call 34; ((with_reducible refine (HI10.out _ (by exact HH0.out.big)).mono ?_); rintro e w8 ⟨A8, c8, rfl, hN8, hb8⟩; have HK8 := hide (HH0.out.keep hb8); have hB8 := HBD.out.step hb8; have f0 := hB8.cell (i := 0) rfl; have f1 := hB8.cell (i := 1) rfl; clear hB8; unfold numV))
                          | (go_at_call 33; ((with_reducible refine (HMU.out _ A8 c8 _ _ rfl rfl HK8.out.big HK8.out.num hN8).mono ?_); rintro e w9 ⟨A9, c9, rfl, hN9, hb9⟩; have HK9 := hide (HK8.out.keep hb9); unfold numV))
                          | (go_at_call 34; ((with_reducible refine (HID.out _ (by exact HK9.out.big)).mono ?_); rintro e w10 ⟨A10, c10, rfl, hN10, hb10⟩; have HK10 := hide (HK9.out.keep hb10); have hN9' := hN9.step hb10; unfold numV))
                          | (go_at_call 32; ((with_reducible refine (HAD.out _ A9 c9 A10 c10 HK10.out.big hN9' hN10).mono ?_); rintro e w11 ⟨A11, c11, rfl, hN11, hb11⟩; have HK11 := hide (HK10.out.keep hb11); obtain ⟨-, s0, s1, s2, s3⟩ := HK11.out; unfold numV)))
                      all_goals
                        have HNS := hide (nb_set HK11.out hN11 hgz1)
                        go_wp2_with fail
                        go_roundw
                        case rel => exact ⟨k + 1, by omega, by go_num, HNS.out.1, hide HNS.out.2.1, hide (by rw [← HSS.out]; exact HNS.out.2.2)⟩
                        case measure => simp [intOf]; omega
                    · have hkT : k = T.size := by omega
                      have hkl : ¬ (k : Int) < (T.size : Int) := by omega
                      have hN0 := HNr.out
                      rw [List.take_of_length_le (by have := HTS.out; omega)] at hN0
                      clear HNr
                      obtain ⟨U, hU⟩ : ∃ U : Int, U = ((numU D : Nat) : Int) := ⟨_, rfl⟩
                      rw [← hU] at hN0
                      obtain ⟨V, hV⟩ : ∃ V : Int, V = pVal s.data.toList := ⟨_, rfl⟩
                      have hvu : V = if NG then -U else U := by
                        rw [hV, hU, HD.out, HNG.out]; rfl
                      have hlV : (digs V.natAbs).length ≤ 100 := by
                        have h1 := numU_digs HALL.out HD160.out D.length
                        rw [List.take_length] at h1
                        have h2 : V.natAbs = numU D := by
                          rw [hvu, hU]
                          cases NG
                          · simp
                          · simp
                        rw [h2]; omega
                      have HVU := hide hvu
                      have HN0 := hide hN0
                      have HLV := hide hlV
                      have HV := hide hV
                      clear hkT hN0 hU hvu hlV hlt hV
                      go_upto_if 78 with fail
                      go_cut [80] from 74 to 80 (fun _ wd => gb < wd.heap.size ∧ Below wz.heap.size wz wd ∧ NB wd (fun q => True ∧ q ≠ gb) gb V)
                      · rcases HCS.out with ⟨hng, -, -, -, hlt⟩ | ⟨hng, hst, -⟩
                        · have hg : NG = true := by rw [HNG.out, hng]
                          have hV2 : V = -U := by rw [HVU.out, hg]; rfl
                          have hc : (T.size : Int) < (s.size : Int) := by omega
                          obtain ⟨A, c, hBx, hNx⟩ := HN0.out
                          have h00 : HeldR wz (gb + 1) gb U A c wr := HeldR.mk' HBr.out hgr ⟨_, _, hBx⟩ hNx
                          have H00 := hide h00
                          have hNE := neg_any (fun q => True ∧ q ≠ gb) U A c wr hNx
                          rw [← hV2] at hNE
                          clear hV2
                          unfold numV at hNE
                          obtain ⟨sg, hsg⟩ : ∃ sg, sg = U.sign := ⟨_, rfl⟩
                          obtain ⟨L, hL⟩ : ∃ L, L = (digs U.natAbs).length := ⟨_, rfl⟩
                          rw [← hsg, ← hL] at hNE hBx
                          have HNE := hide hNE
                          have c0 := hBx.cell (i := 0) rfl
                          have c1 := hBx.cell (i := 1) rfl
                          have hgz1 := hgz.1
                          clear hng hg hlt hNx h00 hNE hsg hL hBx
                          go_wp2_with (go_at_call 35; ((with_reducible refine HNE.out.mono ?_); rintro e w8 ⟨A8, c8, rfl, hN8, hb8⟩; have HK8 := hide (H00.out.keep hb8); obtain ⟨-, s0, s1, s2, s3⟩ := HK8.out; unfold numV))
                          go_meet
                          have HNS := nb_set HK8.out hN8 hgz1
                          exact ⟨HNS.1, HNS.2.1, HNS.2.2⟩
                        · have hg : NG = false := by rw [HNG.out, hng]
                          have hV2 : V = U := by rw [HVU.out, hg]; rfl
                          have hc : ¬ (T.size : Int) < (s.size : Int) := by rw [hst]; omega
                          have HV2 := hide hV2
                          clear hng hg hst hV2
                          go_wp2_with fail
                          go_meet
                          exact ⟨hgr, HBr, by rw [HV2.out]; exact HN0.out⟩
                      · obtain ⟨hgw, HBw, HNw⟩ := hcut
                        clear HN0 HBr hgr
                        rename World => wv
                        have HBW := hide HBw
                        obtain ⟨A, c, hBx, hNx⟩ := HNw
                        have hFI := fun wk (hb : Below wv.heap.size wv wk) => rfits_any (fun q => True ∧ q ≠ gb) V m hm1 hm8 A c wk (hNx.step hb) HLV.out
                        have hLI := fun wk (hb : Below wv.heap.size wv wk) => limbs_any (fun q => True ∧ q ≠ gb) V m hm1 hm8 A c wk (hNx.step hb) HLV.out
                        obtain ⟨FB, hFB⟩ : ∃ FB, FB = decide (Fits m V) := ⟨_, rfl⟩
                        obtain ⟨sg, hsg⟩ : ∃ sg, sg = V.sign := ⟨_, rfl⟩
                        obtain ⟨L, hL⟩ : ∃ L, L = (digs V.natAbs).length := ⟨_, rfl⟩
                        unfold numV at hFI hLI
                        rw [← hsg, ← hL] at hFI hLI hBx
                        rw [← hFB] at hFI
                        have HFI := hide hFI; have HLI := hide hLI
                        have c0 := hBx.cell (i := 0) rfl
                        have c1 := hBx.cell (i := 1) rfl
                        have HBX := hide hBx
                        have HE : Hid (pErr s.data.toList (m : Int) = if FB then 0 else 3) := hide (by
                          rw [HPE.out, if_neg (fun h => h HG.out), if_neg (by have := HD160.out; omega), ← HV.out, hFB]
                          by_cases h : Fits m V <;> simp [h])
                        have HPR : Hid (∀ e w' A' c', Below wz.heap.size wz w' → FB = true → e = .returned (.tuple #[.slice A' m c', .int .i64 0]) → Sl w' w'.heap.size A' (uCs (lims m V)) → Parsed10 s.data.toList (m : Int) wz e w') := hide fun e w' A' c' hb hf he hs => by
                          unfold Parsed10
                          refine ⟨hb, .inl ⟨by rw [HE.out, hf]; rfl, A', c', he, ?_⟩⟩
                          rw [← HV.out]
                          exact hs
                        clear hBx hNx hFI hLI hFB hsg hL HBw
                        cases FB with
                        | false =>
                          have h3 : Hid (pErr s.data.toList (m : Int) = 3) := hide HE.out
                          go_wp2_with (go_at_call 36; ((refine (HFI.out _ (by first | exact Below.refl _ _ | exact bl_drew (Below.refl _ _))).mono ?_); rintro e w8 ⟨rfl, hb8⟩))
                          go_ret2
                          exact HP.out 3 _ _ h3.out (by decide) rfl (bl_step HBW.out (by assumption))
                        | true =>
                          go_wp2_with (first
                            | (go_at_call 36; ((refine (HFI.out _ (by first | exact Below.refl _ _ | exact bl_drew (Below.refl _ _))).mono ?_); rintro e w8 ⟨rfl, hb8⟩; have HB8 := hide hb8; have d0 := (HBX.out.step hb8).cell (i := 0) rfl; have d1 := (HBX.out.step hb8).cell (i := 1) rfl))
                            | (go_at_call 37; ((refine (HLI.out _ (by first | exact HB8.out)).mono ?_); rintro e w9 ⟨A9, c9, rfl, hb9, hs9⟩; have HS9 := hide hs9)))
                          go_ret2
                          exact HPR.out _ _ A9 c9 (bl_step HBW.out (bl_step HB8.out hb9)) trivial rfl HS9.out
            · have h9 : pErr s.data.toList (m : Int) = 9 := by
                rw [HPE.out, if_pos]
                rintro ⟨g1, g2, g3⟩
                rw [← HD.out] at g2
                exact hall g2
              have H9 := hide h9
              have HNA := hide hall
              clear h9 hall
              go_wp2_with fail
              go_loopw [7] (fun i wr => ∃ k : Nat, k ≤ T.size ∧ i = .int .i64 k ∧ Hid ((D.take k).all isD = true) ∧ wr = wz)
                (fun i _ => T.size - (intOf i).toNat)
              case atStart => exact ⟨0, by omega, rfl, hide (by simp), rfl⟩
              case round =>
                obtain ⟨k, hk, rfl, HA, rfl⟩ := hrel
                by_cases hlt : k < T.size
                · obtain ⟨b, hb⟩ : ∃ b, D[k]? = some b := ⟨_, List.getElem?_eq_getElem (by have := HTS.out; omega)⟩
                  have hix := fun wx => index_at HT.out hb wx
                  have hkl : (k : Int) < (T.size : Int) := by omega
                  by_cases i1 : (b.toNat : Int) < 48
                  · clear hb
                    go_wp2
                    go_ret2
                    exact HP.out 9 _ _ H9.out (by decide) rfl (Below.refl _ _)
                  · by_cases i2 : (57 : Int) < (b.toNat : Int)
                    · clear hb
                      go_wp2
                      go_ret2
                      exact HP.out 9 _ _ H9.out (by decide) rfl (Below.refl _ _)
                    · have HA2 : Hid ((D.take (k + 1)).all isD = true) := hide (by
                        rw [List.take_add_one, hb]
                        simp only [Option.toList_some, List.all_append, HA.out, List.all_cons, List.all_nil, Bool.and_true, Bool.true_and]
                        unfold isD
                        simp only [Bool.and_eq_true, decide_eq_true_eq]
                        omega)
                      clear hb
                      go_wp2
                      go_roundw
                      case rel => exact ⟨k + 1, by omega, by go_num, HA2, by first | trivial | rfl⟩
                      case measure => simp [intOf]; omega
                · exfalso
                  apply HNA.out
                  have h := HA.out
                  rwa [List.take_of_length_le (by have := HTS.out; omega)] at h
end Go.Proofs.YthdpbmpdiaencaaDoor
