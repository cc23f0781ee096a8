/- Poly -/
import Derived.Deep.RegionHeld
import Derived.Laws.Externs
import Derived.OrdersHeld
import Derived.OrdersIn
import Derived.OwnWalkIn
import Derived.Shelf.Bits.Mul64
import Derived.Shelf.Spec.BitsCarry
import Derived.Test.YtfljlmleiggmjaaGreatDoorPkB08
import Derived.Test.YtfljlmleiggmjaaGreatDoorPkB29
set_option maxRecDepth 1000000
set_option maxHeartbeats 8000000
namespace Go.Proofs.YtfljlmleiggmjaaGreatDoor
section
open Go.RowKit
def ptAt (ps:List Pt) (i:Nat):Pt:=ps.getD i (0,0)
def PsJ (ps:List Pt):Prop:=∀ p∈ps,PJ p
theorem PsJ.at_ {ps:List Pt} (h:PsJ ps) (i:Nat):PJ (ptAt ps i):=by
 unfold ptAt
 rw [List.getD_eq_getElem?_getD]
 cases hi:ps[i]? with
 | none=>exact ⟨⟨by decide,by decide⟩,⟨by decide,by decide⟩⟩
 | some p=>exact h p (List.mem_of_getElem? hi)
def orientV (ps:List Pt):Int:=if 3≤ps.length∧ps.length≤64 then (orientD (ptAt ps 0) (ptAt ps 1) (ptAt ps 2)).sign else 0
end
end Go.Proofs.YtfljlmleiggmjaaGreatDoor
