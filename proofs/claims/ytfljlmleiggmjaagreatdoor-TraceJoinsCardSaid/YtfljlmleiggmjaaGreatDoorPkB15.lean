/- DecMath -/
import Derived.Test.YtfljlmleiggmjaaGreatDoorPkB13
set_option maxRecDepth 1000000
set_option maxHeartbeats 8000000
namespace Go.Proofs.YtfljlmleiggmjaaGreatDoor
section
theorem dr_lt:∀ n:Nat,∀ d∈dr n,d<10:=by
 intro n
 induction n using Nat.strongRecOn with
 | _ n ih =>
   intro d hd
   by_cases h:n<10
   · rw [dr_small h,List.mem_singleton] at hd
     omega
   · rw [dr_big (by omega),List.mem_cons] at hd
     rcases hd with rfl | hd
     · omega
     · exact ih (n / 10) (by omega) d hd
end
end Go.Proofs.YtfljlmleiggmjaaGreatDoor
