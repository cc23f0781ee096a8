/- codec.isAnswer and the reference's is. -/
import Derived.Test.YtgbimniloabjkaaDoorEach
namespace Go.Proofs.YtgbimniloabjkaaDoor
open Go.RowKit

def recOk (cnt : Int) (i : Nat) (r : Int × Int) : Bool := if (i : Int) < cnt then r.1 == 1 else (r.1 == 0 && r.2 == 0)
def okFrom (cnt : Int) : Nat → List (Int × Int) → Bool
  | _, [] => true
  | i, r :: t => recOk cnt i r && okFrom cnt (i + 1) t
def most (op : Int) : Int := if op = 3 then 3 else if op = 5 then 1 else 2
def aLim (val pts : Int) : Int := if val = 0 then 0 else pts
/-- is it an answer to a request with a header -/
def isAns (op pts val cnt : Int) (recs : List (Int × Int)) : Bool :=
  if val < 0 then false else if most op < val then false else if (recs.length : Int) ≠ pts then false else if cnt < 0 then false else if aLim val pts < cnt then false else okFrom cnt 0 recs
theorem okFrom_drop (cnt : Int) (recs : List (Int × Int)) (k : Nat) (r : Int × Int) (h : recs[k]? = some r) : okFrom cnt k (recs.drop k) = (recOk cnt k r && okFrom cnt (k + 1) (recs.drop (k + 1))) := by
  have hk : k < recs.length := (List.getElem?_eq_some_iff.1 h).1
  rw [List.drop_eq_getElem_cons hk]
  have : recs[k] = r := by rw [List.getElem?_eq_getElem hk] at h; simpa using h
  rw [this]; rfl

end Go.Proofs.YtgbimniloabjkaaDoor
