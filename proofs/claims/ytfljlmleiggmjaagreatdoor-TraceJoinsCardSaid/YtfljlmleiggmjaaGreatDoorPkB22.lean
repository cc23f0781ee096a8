/- Events -/
import Derived.BigQuiet
import Derived.Deep.QuietTactic
import Derived.Lib.SliceRun
import Derived.Test.YtfljlmleiggmjaaGreatDoorPkB21
set_option maxRecDepth 1000000
set_option maxHeartbeats 8000000
namespace Go.Proofs.YtfljlmleiggmjaaGreatDoor
section
open Go.RowKit Go.Maps
theorem evCs_one (es:List Ev):∀ u∈evCs es,u.oneCell'=true:=by
 intro u hu
 unfold evCs at hu
 obtain ⟨e,_,he⟩:=List.mem_flatMap.1 hu
 simp at he
 rcases he with rfl | rfl | rfl <;> rfl
end
end Go.Proofs.YtfljlmleiggmjaaGreatDoor
