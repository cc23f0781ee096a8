/- HdMath -/
import Derived.Test.YtfljlmleiggmjaaGreatDoorPkB01
import Derived.Test.YtfljlmleiggmjaaGreatDoorPkB02
set_option maxRecDepth 1000000
set_option maxHeartbeats 8000000
namespace Go.Proofs.YtfljlmleiggmjaaGreatDoor
section
open Go.RowKit
theorem hcheck_ok {op vs pts:Int} {rs:List Rg} (h1:1≤op∧op≤5) (h3:op=3→3≤vs∧vs≤64) (hv:op≠3→vs=0) (h4:4≤op→1≤rs.length∧rs.length≤64∧rs.any wrongRg=false) (hl:op<4→rs=[])
 (h5:op=5→1≤pts∧pts≤4096) (hp:op≠5→pts=0) (hf:rs.any fullRg=false):hcheck op vs rs pts=0:=by
 unfold hcheck hcheckB
 have hlen:op<4→rs.length=0:=fun h=>by rw [hl h];rfl
 have hd:(decide (op=4∨op=5) && rs.any wrongRg)=false:=by
  by_cases h:op=4∨op=5
  · rw [(h4 (by omega)).2.2,Bool.and_false]
  · rw [decide_eq_false h,Bool.false_and]
 rw [hd,hf,if_neg (by omega),if_neg (by omega),if_neg (by omega),cond_false,if_neg (by omega),if_neg (by omega),cond_false]
end
end Go.Proofs.YtfljlmleiggmjaaGreatDoor
