/- decimal.Parse. -/
import Derived.Test.YthdpbmpdiaencaaDoorDecLib2
import Derived.Test.YthdpbmpdiaencaaDoorDecMath
import Derived.Outline
import Derived.Laws.IdiomStrings
namespace Go.Proofs.YthdpbmpdiaencaaDoor
open Go.RowKit

/-- what is behind the sign -/
def dgs (s : List UInt8) : List UInt8 := Lib.trimPrefix s [45]
def isNg (s : List UInt8) : Bool := Lib.hasPrefix s [45]
def isD (b : UInt8) : Bool := decide (48 ≤ b.toNat) && decide (b.toNat ≤ 57)
def numU (l : List UInt8) : Nat := dv 0 (l.map fun b => b.toNat - 48)
def pVal (s : List UInt8) : Int := if isNg s then -(numU (dgs s) : Int) else (numU (dgs s) : Int)
/-- the text is one of a number -/
def goodT (s : List UInt8) : Prop := dgs s ≠ [] ∧ (dgs s).all isD = true ∧ ((dgs s).head? = some 48 → s = [48])
def strOf (l : List UInt8) : ByteArray := ⟨l.toArray⟩
theorem cut_any (s : ByteArray) (w : World) :
    Calls Tryd.prog 26 #[.string s, .string { data := #[45] }] w fun e w' => e = .returned (.tuple #[.string (strOf (dgs s.data.toList)), .bool (isNg s.data.toList)]) ∧ w = w' := by
  refine (cutPrefix_any s { data := #[45] } w).mono ?_
  rintro e w' ⟨rfl, rfl⟩
  exact ⟨rfl, rfl⟩
set_option maxRecDepth 100000 in
set_option maxHeartbeats 1000000 in
theorem parse_arg (s : ByteArray) (n : Int) (hn : n < 1 ∨ 8 < n) (w : World) :
    Calls Tryd.prog 12 #[.string s, .int .i64 n] w fun e w' => e = .returned (.tuple #[.slice none 0 0, .int .i64 2]) ∧ w = w' := by
  have HC := hide (cut_any s w)
  go_enter Tryd.func12, Tryd.ntmps12
  go_wp2_with fail
  refine HC.out.mono ?_
  rintro e w' ⟨rfl, rfl⟩
  by_cases h1 : n < 1
  · go_wp2
    go_ret2
    exact ⟨rfl, rfl⟩
  · have h8 : 8 < n := by omega
    clear hn
    go_wp2
    go_ret2
    exact ⟨rfl, rfl⟩
theorem isD_contains (b : UInt8) : ([48, 49, 50, 51, 52, 53, 54, 55, 56, 57] : List UInt8).contains b = isD b := by
  rw [Bool.eq_iff_iff, List.contains_iff_mem]
  unfold isD
  simp only [List.mem_cons, List.not_mem_nil, or_false, ← UInt8.toNat_inj, Bool.and_eq_true, decide_eq_true_eq]
  simp
  omega
theorem dropWhile_nil {α : Type} (p : α → Bool) : ∀ l : List α, l.dropWhile p = [] ↔ l.all p = true
  | [] => by simp
  | a :: l => by
    rw [List.dropWhile_cons]
    by_cases h : p a
    · rw [if_pos h, dropWhile_nil p l]; simp [h]
    · rw [if_neg h]; simp [h]
theorem trim_nil (D : List UInt8) : Lib.trimS D [48, 49, 50, 51, 52, 53, 54, 55, 56, 57] = [] ↔ D.all isD = true := by
  unfold Lib.trimS Lib.trimLeftS Lib.trimRightS
  have e : (([48, 49, 50, 51, 52, 53, 54, 55, 56, 57] : List UInt8).contains ·) = isD := funext isD_contains
  rw [e, dropWhile_nil]
  constructor
  · intro h
    rw [List.all_reverse] at h
    have h2 : (D.reverse.dropWhile isD) = [] := by
      cases hd : D.reverse.dropWhile isD with
      | nil => rfl
      | cons a l =>
        exfalso
        have h3 := List.head_dropWhile_not isD (l := D.reverse) (by rw [hd]; simp)
        simp only [hd, List.head_cons] at h3
        rw [hd] at h
        simp [h3] at h
    rw [dropWhile_nil, List.all_reverse] at h2
    exact h2
  · intro h
    have h2 : D.reverse.dropWhile isD = [] := by rw [dropWhile_nil, List.all_reverse]; exact h
    rw [h2]; simp
theorem strOf_toList (l : List UInt8) : (strOf l).toList = l := by
  unfold strOf
  simp
theorem toList_data (s : ByteArray) : s.toList = s.data.toList := strOf_toList s.data.toList
theorem strOf_size (l : List UInt8) : (strOf l).size = l.length := by simp [strOf, ByteArray.size]
theorem strOf_get {l : List UInt8} {T : ByteArray} (hT : T = strOf l) {i : Nat} {b : UInt8} (hb : l[i]? = some b) (h : i < T.size) : T[i] = b := by
  subst hT
  have h2 : i < l.length := by rwa [strOf_size] at h
  have h3 := (List.getElem?_eq_some_iff.1 hb).2
  simpa [strOf, ByteArray.getElem_eq_getElem_data] using h3
theorem dgs_len (s : List UInt8) : (dgs s).length ≤ s.length := by
  unfold dgs Lib.trimPrefix
  split
  · simp
  · exact Nat.le_refl _
theorem str_bytes (l : List UInt8) (T : ByteArray) (hT : T = strOf l) (w : World) : ∃ c w3, (convert 9 40 (.string T)).run Tryd.prog w = .ok (.slice (some ⟨w.heap.size, 0, none⟩) T.size c) w3 ∧ Below w.heap.size w w3 ∧ w3.heap.size = w.heap.size + 1 ∧
    Hid (∀ (j : Nat) (b : UInt8), l[j]? = some b → w3.cell? ⟨w.heap.size, j, none⟩ = some (.int .u8 (b.toNat : Int))) := by
  refine ⟨_, _, run_bytes_of_string w _ _ 5 T Tryd.underlying9 Tryd.underlying40 Tryd.underlying5, ?_, by show (w.heap.push _).size = _; simp, ?_⟩
  · exact (bl_drew (Below.refl _ _)).alloc (Nat.le_refl _) _
  · apply hide
    intro j b hb
    have hj : j < l.length := (List.getElem?_eq_some_iff.1 hb).1
    have h1 := World.cell?_alloc_mark w.drew (bytesRow T (grownCap w T.size 0 5)) 5 ((bytesRow T (grownCap w T.size 0 5)).size, (bytesRow T (grownCap w T.size 0 5)).size + 1) j
    refine Eq.trans h1 ?_
    subst hT
    rw [bytesRow_at _ _ _ (by simpa [strOf] using hj)]
    have := (List.getElem?_eq_some_iff.1 hb).2
    simp [strOf, this]
theorem trimD_any (D : List UInt8) (hs : D.length ≤ 9223372036854775807) (w : World) :
    Calls Tryd.prog 27 #[.string (strOf D), .string { data := #[48, 49, 50, 51, 52, 53, 54, 55, 56, 57] }] w fun e w' => ∃ X : ByteArray, e = .returned (.string X) ∧ (X.toList = [] ↔ D.all isD = true) ∧ Below w.heap.size w w' := by
  refine (strTrim_any (strOf D) { data := #[48, 49, 50, 51, 52, 53, 54, 55, 56, 57] } w (by simpa [strOf, ByteArray.size] using hs) (by decide) (ascii_of_all (by decide))).mono ?_
  rintro e w' ⟨rfl, hb⟩
  refine ⟨_, rfl, ?_, hb⟩
  have := trim_nil D
  rw [show ((⟨(Lib.trimS (strOf D).data.toList (ByteArray.mk #[48, 49, 50, 51, 52, 53, 54, 55, 56, 57]).data.toList).toArray⟩ : ByteArray)).toList = Lib.trimS D [48, 49, 50, 51, 52, 53, 54, 55, 56, 57] from strOf_toList _]
  exact this
set_option maxRecDepth 100000 in
set_option maxHeartbeats 1000000 in
theorem parse_syn (s : ByteArray) (n : Int) (hn1 : 1 ≤ n) (hn8 : n ≤ 8) (hg : ¬ goodT s.data.toList) (hs : s.size ≤ maxLen) (w : World) :
    Calls Tryd.prog 12 #[.string s, .int .i64 n] w fun e w' => e = .returned (.tuple #[.slice none 0 0, .int .i64 9]) ∧ Below w.heap.size w w' := by
  have HC := hide (cut_any s w)
  go_enter Tryd.func12, Tryd.ntmps12
  go_wp2_with fail
  refine HC.out.mono ?_
  rintro e w' ⟨rfl, rfl⟩
  obtain ⟨D, hD⟩ : ∃ D, D = dgs s.data.toList := ⟨_, rfl⟩
  rw [← hD]
  obtain ⟨T, hT⟩ : ∃ T, T = strOf D := ⟨_, rfl⟩
  have HT1 : Hid (T.toList = D) := hide (by rw [hT, strOf_toList])
  have TR := hide (trimD_any D (by rw [hD]; have := dgs_len s.data.toList; unfold maxLen at hs; simp only [ByteArray.size, Array.length_toList] at *; omega) w)
  rw [← hT] at TR ⊢
  have HD := hide hD; have HT := hide hT
  clear hD hT
  have h1 : ¬ n < 1 := by omega
  have h8 : ¬ 8 < n := by omega
  cases h0 : T.toList.isEmpty with
  | true =>
    go_wp2
    go_ret2
    exact ⟨rfl, Below.refl _ _⟩
  | false =>
    go_wp2_with fail
    refine TR.out.mono ?_
    rintro e w1 ⟨X, rfl, hX, hb1⟩
    have HX := hide hX
    clear hX
    cases hx0 : X.toList.isEmpty with
    | true =>
      have hne : D ≠ [] := by
        rw [← HT1.out]
        intro e
        rw [e] at h0
        cases h0
      have hall : D.all isD = true := HX.out.1 (by simpa using hx0)
      have hbad : D.head? = some 48 ∧ s.data.toList ≠ [48] := by
        refine Classical.byContradiction fun hh => hg ⟨by rw [← HD.out]; exact hne, by rw [← HD.out]; exact hall, fun h => ?_⟩
        rw [← HD.out] at h
        exact Classical.byContradiction fun h2 => hh ⟨h, h2⟩
      have hsz : 0 < T.size := by rw [HT.out, strOf_size]; exact List.length_pos_iff.2 hne
      have hc : (T[0].toNat : Int) = 48 := by
        rw [strOf_get (l := D) (b := 48) HT.out (by rw [← List.head?_eq_getElem?]; exact hbad.1)]; rfl
      have hz : (!s.toList == [48]) = true := by
        rw [toList_data]
        simpa using hbad.2
      clear hne hall hbad
      go_wp2
      go_ret2
      exact ⟨rfl, hb1⟩
    | false =>
      go_wp2
      go_ret2
      exact ⟨rfl, hb1⟩
end Go.Proofs.YthdpbmpdiaencaaDoor
