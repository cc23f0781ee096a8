/- RefEvents16 -/
import Derived.Test.YthnenedoblncjaaGreatDoorPkR23
set_option maxRecDepth 1000000
set_option maxHeartbeats 8000000
namespace Go.Proofs.YthnenedoblncjaaGreatDoor
section
open Go.RowKit
theorem Eo(g j:Nat):(⟨g,0,none⟩:Addr).add j=⟨g,j,none⟩:=by unfold Addr.add;split <;> simp_all
end
end Go.Proofs.YthnenedoblncjaaGreatDoor