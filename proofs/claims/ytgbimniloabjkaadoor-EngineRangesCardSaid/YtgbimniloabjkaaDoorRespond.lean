/- codec.Respond: its bytes or its error, as a function of the header and the answer. -/
import Derived.Test.YtgbimniloabjkaaDoorAnswer
import Derived.Test.YtgbimniloabjkaaDoorEncode
import Derived.Deep.RegionLaw
import Derived.Deep.AppendLies
namespace Go.Proofs.YtgbimniloabjkaaDoor
open Go.RowKit

def ansBytes (op val cnt : Int) (recs : List (Int × Int)) : List Int := [0, val] ++ (if op = 5 then [cnt % 256, cnt / 256] else []) ++ recs.flatMap rec9
/-- what Respond returns -/
def hrespond (op vs : Int) (hrs : List Rg) (pts val cnt : Int) (recs : List (Int × Int)) : List Int × Int :=
  if hcheck op vs hrs pts ≠ 0 then ([], hcheck op vs hrs pts)
  else if isAns op pts val cnt recs = false then ([], 10)
  else (ansBytes op val cnt recs, 0)
theorem most_le (op : Int) : most op ≤ 3 := by unfold most; split <;> (try split) <;> omega
theorem isAns_true {op pts val cnt : Int} {recs : List (Int × Int)} (h : isAns op pts val cnt recs = true) (hp : 0 ≤ pts) : 0 ≤ val ∧ val ≤ 3 ∧ (recs.length : Int) = pts ∧ 0 ≤ cnt ∧ cnt ≤ pts ∧ okFrom cnt 0 recs = true := by
  have hm := most_le op
  unfold isAns at h
  by_cases c1 : val < 0
  · rw [if_pos c1] at h; cases h
  rw [if_neg c1] at h
  by_cases c2 : most op < val
  · rw [if_pos c2] at h; cases h
  rw [if_neg c2] at h
  by_cases c3 : (recs.length : Int) ≠ pts
  · rw [if_pos c3] at h; cases h
  rw [if_neg c3] at h
  by_cases c4 : cnt < 0
  · rw [if_pos c4] at h; cases h
  rw [if_neg c4] at h
  by_cases c5 : aLim val pts < cnt
  · rw [if_pos c5] at h; cases h
  rw [if_neg c5] at h
  have hl : aLim val pts ≤ pts := by unfold aLim; split <;> omega
  exact ⟨by omega, by omega, by omega, by omega, by omega, h⟩
theorem mostM (op : Int) : ∃ M, (op = 3 ∧ M = 3 ∨ op = 5 ∧ M = 1 ∨ (op == 3) = false ∧ (op == 5) = false ∧ M = 2) ∧ most op = M := by
  by_cases h3 : op = 3
  · exact ⟨3, .inl ⟨h3, rfl⟩, by unfold most; rw [if_pos h3]⟩
  · by_cases h5 : op = 5
    · exact ⟨1, .inr (.inl ⟨h5, rfl⟩), by unfold most; rw [if_neg h3, if_pos h5]⟩
    · exact ⟨2, .inr (.inr ⟨by simpa using h3, by simpa using h5, rfl⟩), by unfold most; rw [if_neg h3, if_neg h5]⟩

end Go.Proofs.YtgbimniloabjkaaDoor
