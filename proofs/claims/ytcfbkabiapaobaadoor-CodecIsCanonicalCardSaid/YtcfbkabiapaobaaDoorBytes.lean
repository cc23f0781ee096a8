/- bytes.Equal and bytes.HasPrefix where they answer true; prefixes of slices. -/
import Derived.Test.YtcfbkabiapaobaaDoorFormat
import Derived.Laws.BytesArg
namespace Go.Proofs.YtcfbkabiapaobaaDoor
open Go.RowKit

theorem Sl.take {w : World} {B : Nat} {A : Option Addr} {xs : List Value} (h : Sl w B A xs) (k : Nat) : Sl w B A (xs.take k) := by
  rcases h with h | ⟨b, off, hA, hB, hc⟩
  · exact .inl (by simp [h])
  · exact .inr ⟨b, off, hA, hB, fun j u hu => by
      rw [List.getElem?_take] at hu
      split at hu
      · exact hc j u hu
      · cases hu⟩
theorem byCells_take (bs : List Int) (k : Nat) : byCells (bs.take k) = (byCells bs).take k := by simp [byCells, List.map_take]

theorem conv_bytes (w : World) (B : Nat) (A : Option Addr) (bs : List Int) (c : Nat) (hs : Sl w B A (byCells bs)) :
    (convert 22 9 (.slice A bs.length c)).run Tryd.prog w = .ok (.string (strOfNums bs)) w := by
  rcases hs with hs | ⟨b, off, rfl, _, hc⟩
  · have h0 : bs = [] := by simpa [byCells] using hs
    subst h0
    cases A with
    | none => exact run_convert_bytes_nil w _ _ Tryd.underlying22 Tryd.underlying5 0 c _ Tryd.underlying9
    | some a =>
      rw [run_convert_bytes_string w _ _ _ _ _ c Tryd.underlying22 Tryd.underlying5 Tryd.underlying9, run_bytesToString w a _ c [] rfl]
      rfl
  · refine run_convert_bytes_arg w _ _ Tryd.underlying22 Tryd.underlying5 b off _ c bs rfl (fun i hi => ?_) _ Tryd.underlying9
    have h : bs[i]? = some bs[i] := List.getElem?_eq_getElem hi
    refine hc i _ ?_
    simp [byCells, h]

theorem equal_true (bs : List Int) (A A' : Option Addr) (c c' : Nat) (w : World) (hs : Sl w w.heap.size A (byCells bs)) (hs' : Sl w w.heap.size A' (byCells bs)) :
    Calls Tryd.prog 14 #[.slice A bs.length c, .slice A' bs.length c'] w fun e w' => e = .returned (.bool true) ∧ w = w' := by
  have h1 := conv_bytes w _ A bs c hs
  have h2 := conv_bytes w _ A' bs c' hs'
  go_enter Tryd.func14, Tryd.ntmps14
  go_wp2
  go_ret
  exact ⟨ret_bool (by simp), rfl⟩

theorem hasPrefix_true (bs : List Int) (k : Nat) (A A' : Option Addr) (c c' : Nat) (w : World) (hs : Sl w w.heap.size A (byCells bs)) (hs' : Sl w w.heap.size A' (byCells (bs.take k))) (hk : k ≤ bs.length) (hc : bs.length ≤ c) :
    Calls Tryd.prog 16 #[.slice A bs.length c, .slice A' k c'] w fun e w' => e = .returned (.bool true) ∧ w = w' := by
  have hl : (bs.take k).length = k := by simp; omega
  have HE := equal_true (bs.take k) A A' c c' w (by rw [byCells_take]; exact hs.take k) hs'
  rw [hl] at HE
  have HEE := hide HE; clear HE hl
  go_enter Tryd.func16, Tryd.ntmps16
  go_wp2_with fail
  refine HEE.out.mono ?_
  rintro e w' ⟨rfl, rfl⟩
  go_wp2
  go_ret
  exact ⟨rfl, rfl⟩
end Go.Proofs.YtcfbkabiapaobaaDoor
