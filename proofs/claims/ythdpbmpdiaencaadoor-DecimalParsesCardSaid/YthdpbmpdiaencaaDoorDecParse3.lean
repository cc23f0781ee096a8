/- decimal.Parse on every text. -/
import Derived.Test.YthdpbmpdiaencaaDoorDecParse2
namespace Go.Proofs.YthdpbmpdiaencaaDoor
open Go.RowKit

set_option maxRecDepth 100000 in
set_option maxHeartbeats 4000000 in
theorem parse_long (s : ByteArray) (n : Nat) (hn1 : 1 ≤ n) (hn8 : n ≤ 8) (hg : goodT s.data.toList) (hl : 160 < (dgs s.data.toList).length) (hs : s.size ≤ maxLen) (w : World) :
    Calls Tryd.prog 12 #[.string s, .int .i64 n] w fun e w' => e = .returned (.tuple #[.slice none 0 0, .int .i64 3]) ∧ Below w.heap.size w w' := by
  have HC := hide (cut_any s w)
  obtain ⟨D, hD⟩ : ∃ D, D = dgs s.data.toList := ⟨_, rfl⟩
  obtain ⟨T, hT⟩ : ∃ T, T = strOf D := ⟨_, rfl⟩
  have HT1 : Hid (T.toList = D) := hide (by rw [hT, strOf_toList])
  obtain ⟨hg1, hg2, hg3⟩ := hg
  rw [← hD] at hl hg1 hg2 hg3 HC
  rw [← hT] at HC
  have TR := hide (trimD_any D (by rw [hD]; have := dgs_len s.data.toList; unfold maxLen at hs; simp only [ByteArray.size, Array.length_toList] at *; omega) w)
  rw [← hT] at TR
  have h0 : T.toList.isEmpty = false := by
    rw [HT1.out]
    cases D with
    | nil => exact absurd rfl hg1
    | cons a l => rfl
  have hsz : 0 < T.size := by rw [hT, strOf_size]; exact List.length_pos_iff.2 hg1
  have hcz : ((T[0].toNat : Int) = 48 ∧ (!s.toList == [48]) = false) ∨ ¬ (T[0].toNat : Int) = 48 := by
    by_cases hc : (T[0].toNat : Int) = 48
    · refine .inl ⟨hc, ?_⟩
      have h48 : D.head? = some 48 := by
        have h1 : 0 < D.length := List.length_pos_iff.2 hg1
        have h2 := List.getElem?_eq_getElem h1
        have h3 := strOf_get hT h2 hsz
        rw [List.head?_eq_getElem?, h2, ← h3]
        congr 1
        rw [← UInt8.toNat_inj]
        have : T[0].toNat = 48 := by omega
        exact this
      rw [toList_data, hg3 h48]; rfl
    · exact .inr hc
  have hts : T.size = D.length := by rw [hT, strOf_size]
  have htl : 160 < (T.size : Int) := by omega
  have HD := hide hD; have HT := hide hT; have HG2 := hide hg2; have HTS := hide hts; have HL := hide hl
  obtain ⟨NG, hNG⟩ : ∃ NG, NG = isNg s.data.toList := ⟨_, rfl⟩
  rw [← hNG] at HC
  have HNG := hide hNG
  clear hD hT hg1 hg2 hg3 hNG hts hl
  have h1 : ¬ (n : Int) < 1 := by omega
  have h8 : ¬ 8 < (n : Int) := by omega
  go_enter Tryd.func12, Tryd.ntmps12
  go_wp2_with fail
  refine HC.out.mono ?_
  rintro e w' ⟨rfl, rfl⟩
  go_wp2_with fail
  refine TR.out.mono ?_
  rintro e w1 ⟨X, rfl, hX, hb1⟩
  have hx0 : X.toList.isEmpty = true := by
    rw [List.isEmpty_iff]; exact hX.2 HG2.out
  clear hX
  rcases hcz with ⟨hc, hz⟩ | hc
  · go_wp2
    go_ret2
    exact ⟨rfl, hb1⟩
  · go_wp2
    go_ret2
    exact ⟨rfl, hb1⟩
instance (s : List UInt8) : Decidable (goodT s) := by unfold goodT; infer_instance
instance (n : Nat) (v : Int) : Decidable (Fits n v) := by unfold Fits; infer_instance
/-- the error of a text -/
def pErr (s : List UInt8) (n : Int) : Int :=
  if n < 1 ∨ 8 < n then 2 else if ¬ goodT s then 9 else if 160 < (dgs s).length then 3 else if Fits n.toNat (pVal s) then 0 else 3
/-- what Parse returns -/
def Parsed10 (s : List UInt8) (n : Int) (w : World) (e : Ending) (w' : World) : Prop :=
  Below w.heap.size w w' ∧ ((pErr s n = 0 ∧ ∃ A c, e = .returned (.tuple #[.slice A n.toNat c, .int .i64 0]) ∧ Sl w' w'.heap.size A (uCs (lims n.toNat (pVal s)))) ∨ (pErr s n ≠ 0 ∧ e = .returned (.tuple #[.slice none 0 0, .int .i64 (pErr s n)])))
theorem parse_dec (s : ByteArray) (n : Int) (hs : s.size ≤ maxLen) (w : World) (hw : MWords w) (hwg : 2 < w.heap.size) :
    Calls Tryd.prog 12 #[.string s, .int .i64 n] w (Parsed10 s.data.toList n w) := by
  unfold Parsed10
  by_cases h1 : n < 1 ∨ 8 < n
  · have e : pErr s.data.toList n = 2 := by unfold pErr; rw [if_pos h1]
    rw [e]
    refine (parse_arg s n h1 w).mono ?_
    rintro e w' ⟨rfl, rfl⟩
    exact ⟨Below.refl _ _, .inr ⟨by decide, rfl⟩⟩
  · by_cases h2 : goodT s.data.toList
    · obtain ⟨m, rfl⟩ := Int.eq_ofNat_of_zero_le (show 0 ≤ n by omega)
      by_cases h3 : 160 < (dgs s.data.toList).length
      · have e : pErr s.data.toList (m : Int) = 3 := by unfold pErr; rw [if_neg h1, if_neg (fun h => h h2), if_pos h3]
        rw [e]
        refine (parse_long s m (by omega) (by omega) h2 h3 hs w).mono ?_
        rintro e w' ⟨rfl, hb⟩
        exact ⟨hb, .inr ⟨by decide, rfl⟩⟩
      · refine (parse_main s m (by omega) (by omega) h2 (by omega) w hw hwg).mono ?_
        rintro e w' ⟨hb, ⟨hf, A, c, rfl, hsl⟩ | ⟨hf, rfl⟩⟩
        · have e : pErr s.data.toList (m : Int) = 0 := by unfold pErr; rw [if_neg h1, if_neg (fun h => h h2), if_neg h3, Int.toNat_natCast, if_pos hf]
          exact ⟨hb, .inl ⟨e, A, c, rfl, hsl⟩⟩
        · have e : pErr s.data.toList (m : Int) = 3 := by unfold pErr; rw [if_neg h1, if_neg (fun h => h h2), if_neg h3, Int.toNat_natCast, if_neg hf]
          rw [e]
          exact ⟨hb, .inr ⟨by decide, rfl⟩⟩
    · have e : pErr s.data.toList n = 9 := by unfold pErr; rw [if_neg h1, if_pos h2]
      rw [e]
      refine (parse_syn s n (by omega) (by omega) h2 hs w).mono ?_
      rintro e w' ⟨rfl, hb⟩
      exact ⟨hb, .inr ⟨by decide, rfl⟩⟩
end Go.Proofs.YthdpbmpdiaencaaDoor
