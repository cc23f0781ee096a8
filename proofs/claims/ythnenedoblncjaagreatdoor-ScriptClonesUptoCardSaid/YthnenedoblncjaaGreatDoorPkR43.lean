/- ScrMath -/
import Derived.Test.YthnenedoblncjaaGreatDoorPkR21
import Derived.Test.YthnenedoblncjaaGreatDoorPkR36
import Derived.Test.YthnenedoblncjaaGreatDoorPkR40
set_option maxRecDepth 1000000
set_option maxHeartbeats 8000000
namespace Go.Proofs.YthnenedoblncjaaGreatDoor
section
open Go.RowKit Go.Shelf
theorem lN{bs:List Int}(hby:By bs):By (YE bs)/\(YE bs).length<=100000:=by
 by_cases hc:Y7 bs=0
 · obtain ⟨_,_,_,_,_,_,_,_,_,_,hl,hb,_⟩:=lQ hby hc;exact ⟨hb,hl⟩
 · rw [rM hc];have:=GV bs;refine ⟨fun x hx=>?_,by simp⟩;rw [List.mem_singleton] at hx;omega
end
end Go.Proofs.YthnenedoblncjaaGreatDoor