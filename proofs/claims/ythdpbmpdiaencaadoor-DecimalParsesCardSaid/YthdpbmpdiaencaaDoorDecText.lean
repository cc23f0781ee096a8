/- Plain laws: a text that is accepted is the decimal form of its number; the decimal form of a number is accepted. -/
import Derived.Test.YthdpbmpdiaencaaDoorAlive04
namespace Go.Proofs.YthdpbmpdiaencaaDoor
open Go.RowKit

theorem isNg_cons (s : List UInt8) : isNg s = true ↔ ∃ t, s = 45 :: t := by
  unfold isNg Lib.hasPrefix
  cases s with
  | nil => simp [List.isPrefixOf]
  | cons a t =>
    simp only [List.isPrefixOf, Bool.and_true, beq_iff_eq]
    constructor
    · intro h; exact ⟨t, by rw [h]⟩
    · rintro ⟨u, h⟩; injection h with h1; exact h1.symm
theorem dgs_ng (t : List UInt8) : dgs (45 :: t) = t ∧ isNg (45 :: t) = true := by
  have h : isNg (45 :: t) = true := (isNg_cons _).2 ⟨t, rfl⟩
  refine ⟨?_, h⟩
  unfold dgs Lib.trimPrefix
  unfold isNg at h
  rw [if_pos h]; rfl
theorem dgs_pos {s : List UInt8} (h : isNg s = false) : dgs s = s := by
  unfold dgs Lib.trimPrefix
  unfold isNg at h
  rw [if_neg (by rw [h]; decide)]
/-- digits of a text -/
theorem digits_dr {D : List UInt8} (h1 : D ≠ []) (h2 : D.all isD = true) (h3 : D.head? = some 48 → D = [48]) : asc (dr (numU D)) = (D.map fun b => (b.toNat : Int)).reverse := by
  have hd : ∀ b ∈ D, 48 ≤ b.toNat ∧ b.toNat ≤ 57 := fun b hb => by
    have := List.all_eq_true.1 h2 b hb
    unfold isD at this
    simpa using this
  unfold numU
  rw [dv_dvR, dr_dvR]
  · unfold asc
    rw [List.map_reverse, List.map_map]
    congr 1
    refine List.map_congr_left fun b hb => ?_
    have := hd b hb
    simp only [Function.comp_apply]
    omega
  · simpa using h1
  · intro d hm
    obtain ⟨b, hb, rfl⟩ := List.mem_map.1 (List.mem_reverse.1 hm)
    have := hd b hb
    omega
  · intro hl
    rw [List.getLast?_reverse] at hl
    cases D with
    | nil => exact absurd rfl h1
    | cons a t =>
      have ha : a.toNat - 48 = 0 := by simpa using hl
      have hb := hd a (by simp)
      have ha2 : a = 48 := by
        rw [← UInt8.toNat_inj]
        show a.toNat = 48
        omega
      have := h3 (by rw [ha2]; rfl)
      rw [this]; rfl
theorem canon10 {s : List UInt8} (h : goodT s) : fmtI (pVal s) = s.map fun b => (b.toNat : Int) := by
  obtain ⟨h1, h2, h3⟩ := h
  cases hn : isNg s with
  | true =>
    obtain ⟨t, rfl⟩ := (isNg_cons s).1 hn
    rw [(dgs_ng t).1] at h1 h2 h3
    have h3' : t.head? = some 48 → t = [48] := fun e => by
      have := h3 e
      simp at this
    have hd := digits_dr h1 h2 h3'
    have hp : pVal (45 :: t) = -(numU t : Int) := by unfold pVal; rw [if_pos hn, (dgs_ng t).1]
    have h0 : numU t ≠ 0 := fun e => by
      rw [e, dr_small (by decide)] at hd
      have hl := congrArg List.length hd
      simp [asc] at hl
      cases t with
      | nil => exact absurd rfl h1
      | cons a t =>
        have ht : t = [] := by
          apply List.eq_nil_of_length_eq_zero
          simp at hl
          exact List.length_eq_zero_iff.2 hl
        subst ht
        have ha : a.toNat = 48 := by
          have h9 : (48 : Int) + ((0 : Nat) : Int) = (a.toNat : Int) := (List.cons.inj hd).1
          omega
        have := h3 (by show some a = some 48; congr 1; rw [← UInt8.toNat_inj]; exact ha)
        simp at this
    rw [hp, fmtI_neg (by omega), show (-(numU t : Int)).natAbs = numU t by omega, hd]
    simp
  | false =>
    rw [dgs_pos hn] at h1 h2 h3
    have hp : pVal s = (numU s : Int) := by unfold pVal; rw [if_neg (by rw [hn]; decide), dgs_pos hn]
    rw [hp, fmtI_pos (by omega), show ((numU s : Int)).natAbs = numU s by omega, digits_dr h1 h2 h3, List.reverse_reverse]
theorem canon_str {s : ByteArray} (h : goodT s.data.toList) : strOfNums (fmtI (pVal s.data.toList)) = s := by
  rw [canon10 h, strOfNums_strOf]; rfl
theorem pErr_zero {s : List UInt8} {n : Int} (h : pErr s n = 0) : 1 ≤ n ∧ n ≤ 8 ∧ goodT s ∧ (dgs s).length ≤ 160 ∧ Fits n.toNat (pVal s) := by
  unfold pErr at h
  split at h
  · cases h
  · split at h
    · cases h
    · split at h
      · cases h
      · split at h
        · rename_i h1 h2 h3 h4
          exact ⟨by omega, by omega, Classical.byContradiction h2, by omega, h4⟩
        · cases h
/-- the digits of a number as bytes -/
def dgB (m : Nat) : List UInt8 := (dr m).reverse.map fun d => UInt8.ofNat (48 + d)
def txt (v : Int) : List UInt8 := (if v < 0 then [45] else []) ++ dgB v.natAbs
theorem txt_nums (v : Int) : fmtI v = (txt v).map fun b => (b.toNat : Int) := by
  unfold fmtI txt dgB
  rw [List.map_append, List.map_map]
  congr 1
  · split <;> rfl
  · refine List.map_congr_left fun d hd => ?_
    have := dr_lt _ d (List.mem_reverse.1 hd)
    simp only [Function.comp_apply]
    rw [UInt8.toNat_ofNat']
    omega
theorem txt_str (v : Int) : strOfNums (fmtI v) = strOf (txt v) := by rw [txt_nums, strOfNums_strOf]
theorem dgB_nat {m d : Nat} (h : d ∈ dr m) : (UInt8.ofNat (48 + d)).toNat = 48 + d := by
  have := dr_lt _ d h
  rw [UInt8.toNat_ofNat']
  omega
theorem dgB_isD (m : Nat) : (dgB m).all isD = true := by
  rw [List.all_eq_true]
  intro b hb
  obtain ⟨d, hd, rfl⟩ := List.mem_map.1 hb
  have h1 := List.mem_reverse.1 hd
  have h2 := dr_lt _ d h1
  unfold isD
  rw [dgB_nat h1]
  simp only [Bool.and_eq_true, decide_eq_true_eq]
  omega
theorem dgB_num (m : Nat) : numU (dgB m) = m := by
  unfold numU dgB
  rw [List.map_map]
  have e : (dr m).reverse.map ((fun b : UInt8 => b.toNat - 48) ∘ fun d => UInt8.ofNat (48 + d)) = (dr m).reverse := by
    conv => rhs; rw [← List.map_id (dr m).reverse]
    refine List.map_congr_left fun d hd => ?_
    simp only [Function.comp_apply, id_eq]
    rw [dgB_nat (List.mem_reverse.1 hd)]
    omega
  rw [e, dv_dr]
theorem dgB_ne (m : Nat) : dgB m ≠ [] := by
  unfold dgB
  simp [dr_ne]
theorem dgB_head {m : Nat} (h : (dgB m).head? = some 48) : m = 0 := by
  apply dr_last
  unfold dgB at h
  rw [List.head?_map, List.head?_reverse] at h
  cases hl : (dr m).getLast? with
  | none => rw [hl] at h; simp at h
  | some d =>
    rw [hl] at h
    have hm : d ∈ dr m := List.mem_of_getLast? hl
    have h1 : UInt8.ofNat (48 + d) = 48 := by simpa using h
    have h2 := congrArg UInt8.toNat h1
    rw [dgB_nat hm] at h2
    have h3 : (48 : UInt8).toNat = 48 := rfl
    rw [h3] at h2
    congr 1
    omega
theorem txt_facts (v : Int) : dgs (txt v) = dgB v.natAbs ∧ isNg (txt v) = decide (v < 0) := by
  unfold txt
  by_cases h : v < 0
  · rw [if_pos h, List.singleton_append, decide_eq_true h]
    exact dgs_ng _
  · rw [if_neg h, List.nil_append, decide_eq_false h]
    have hn : isNg (dgB v.natAbs) = false := by
      cases hh : isNg (dgB v.natAbs) with
      | false => rfl
      | true =>
        obtain ⟨t, ht⟩ := (isNg_cons _).1 hh
        have := List.all_eq_true.1 (dgB_isD v.natAbs) 45 (by rw [ht]; simp)
        revert this
        decide
    exact ⟨dgs_pos hn, hn⟩
theorem txt_ok {v : Int} {n : Nat} (hf : Fits n v) (_hn : 1 ≤ n) (hn8 : n ≤ 8) : pErr (txt v) (n : Int) = 0 ∧ pVal (txt v) = v := by
  obtain ⟨h1, h2⟩ := txt_facts v
  have hv : pVal (txt v) = v := by
    unfold pVal
    rw [h2, h1, dgB_num]
    by_cases h : v < 0
    · rw [decide_eq_true h, if_pos rfl]; omega
    · rw [decide_eq_false h, if_neg (by decide)]; omega
  refine ⟨?_, hv⟩
  have hg : goodT (txt v) := by
    refine ⟨by rw [h1]; exact dgB_ne _, by rw [h1]; exact dgB_isD _, fun e => ?_⟩
    rw [h1] at e
    have h0 : v = 0 := by have := dgB_head e; omega
    subst h0
    show dgB 0 = [48]
    unfold dgB
    rw [show (dr 0) = [0] from dr_small (by decide)]; rfl
  have hl : (dgs (txt v)).length ≤ 160 := by
    rw [h1]
    unfold dgB
    rw [List.length_map, List.length_reverse]
    have h3 := dr_len (k := 154) (n := v.natAbs) (by
      have h3 : (18446744073709551616 : Int) ^ n ≤ (18446744073709551616 : Int) ^ 8 := by
        obtain ⟨d, hd⟩ := Nat.exists_eq_add_of_le hn8
        rw [hd, Int.pow_add]
        have h4 := W64_pos d
        have h5 := W64_pos n
        have := Int.mul_le_mul_of_nonneg_left (show (1 : Int) ≤ (18446744073709551616 : Int) ^ d by omega) (Int.le_of_lt h5)
        omega
      have h6 : (18446744073709551616 : Int) ^ 8 < 10 ^ 155 := by decide
      have h8 := hf.1
      have h9 := hf.2
      have hp := W64_pos n
      have h7 : (v.natAbs : Int) < 10 ^ 155 := by omega
      exact_mod_cast h7)
    omega
  unfold pErr
  rw [if_neg (by omega), if_neg (fun h => h hg), if_neg (by omega), Int.toNat_natCast, hv, if_pos hf]
/-- limbs as a signed number -/
theorem signed_of {l : List Int} (hl : L64 l) : ∃ v, Fits l.length v ∧ lims l.length v = l := by
  have hb := valL_bd l hl
  have hp := W64_pos l.length
  obtain ⟨v, h1, h2, _⟩ := sgn_lims (n := l.length) (p := valL l) (by omega) hb.2
  refine ⟨v, h1, ?_⟩
  rw [h2]
  exact (lims_of rfl hl rfl).symm
end Go.Proofs.YthdpbmpdiaencaaDoor
