/- TraceMath -/
import Derived.Deep.AppendLies
import Derived.Deep.RegionHeld
import Derived.Deep.RegionHeld3
import Derived.Deep.RegionLaw
import Derived.Laws.Externs
import Derived.OrdersHeld
import Derived.OrdersIn
import Derived.OwnWalkIn
import Derived.Shelf.Bits.Mul64
import Derived.Shelf.Spec.BitsCarry
import Derived.Test.YtfljlmleiggmjaaGreatDoorPkB03
import Derived.Test.YtfljlmleiggmjaaGreatDoorPkB10
import Derived.Test.YtfljlmleiggmjaaGreatDoorPkB38
import Derived.Test.YtfljlmleiggmjaaGreatDoorPkB45
set_option maxRecDepth 1000000
set_option maxHeartbeats 8000000
namespace Go.Proofs.YtfljlmleiggmjaaGreatDoor
section
open Go.RowKit
theorem evB_counts (rs:List Rg):((evB rs 4).length:Int) - (evB rs 2).length - 5=2*(((evB rs 2).length:Int) - (evB rs 1).length - 1):=by
 obtain ⟨h1,h2,h4⟩:=netw_124
 rw [evB_len,evB_len,evB_len,h1,h2,h4]
 omega
end
end Go.Proofs.YtfljlmleiggmjaaGreatDoor
