/- FenceValid -/
import Derived.Deep.RegionHeld
import Derived.Laws.Externs
import Derived.OrdersHeld
import Derived.OrdersIn
import Derived.OwnWalkIn
import Derived.Shelf.Bits.Mul64
import Derived.Shelf.Spec.BitsCarry
import Derived.Test.YtfljlmleiggmjaaGreatDoorPkB06
import Derived.Test.YtfljlmleiggmjaaGreatDoorPkB36
import Derived.Test.YtfljlmleiggmjaaGreatDoorPkB37
set_option maxRecDepth 1000000
set_option maxHeartbeats 8000000
namespace Go.Proofs.YtfljlmleiggmjaaGreatDoor
section
open Go.RowKit Go.Shelf
theorem edgeN_le (n:Nat):edgeN n≤n∧edgeN n≤64:=by unfold edgeN;split <;> omega
section
variable (P:Nat→Prop) (t:Option (Nat × Nat)) (es:List Ev) (d:Bool) (v:Int) (ps:List Pt) (hps:PsJ ps) (hn:ps.length≤10000) (A:Option Addr) (c:Nat) (w:World) (hP:∀ k,P k→k<w.heap.size) (hg0:P 3) (hs:SlP w P A (ptCs ps)) (hw:MW w) (ht:Tp w P t es) (hl:es.length≤900000)
include hps hn hP hg0 hs hw ht hl
end
end
end Go.Proofs.YtfljlmleiggmjaaGreatDoor
