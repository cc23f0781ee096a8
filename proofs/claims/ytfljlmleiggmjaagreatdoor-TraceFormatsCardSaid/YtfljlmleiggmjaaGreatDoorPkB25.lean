/- TraceForm -/
import Derived.Deep.AppendLies
import Derived.Test.YtfljlmleiggmjaaGreatDoorPkB20
import Derived.Test.YtfljlmleiggmjaaGreatDoorPkB24
set_option maxRecDepth 1000000
set_option maxHeartbeats 8000000
namespace Go.Proofs.YtfljlmleiggmjaaGreatDoor
section
open Go.RowKit Go.Shelf
theorem fmtT_snoc (l:List Ev) (e:Ev) (h:l≠[]):fmtT (l++[e])=fmtT l++[32]++txtE e:=by
 cases l with
 | nil=>exact absurd rfl h
 | cons x r=>simp [fmtT]
end
end Go.Proofs.YtfljlmleiggmjaaGreatDoor
