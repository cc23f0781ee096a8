/- BatchMath RefEv20 RefEv20B -/
import Derived.BigQuiet
import Derived.Deep.QuietTactic
import Derived.Deep.RegionHeld
import Derived.Laws.Externs
import Derived.OrdersHeld
import Derived.OrdersIn
import Derived.OwnWalkIn
import Derived.Shelf.Bits.Mul64
import Derived.Shelf.Spec.BitsCarry
import Derived.Test.YtfljlmleiggmjaaGreatDoorPkB35
import Derived.Test.YtfljlmleiggmjaaGreatDoorPkB37
set_option maxRecDepth 1000000
set_option maxHeartbeats 8000000
namespace Go.Proofs.YtfljlmleiggmjaaGreatDoor
section
open Go.RowKit
def hrec (gs:List Gr) (q:(Int × Int) × Int):Int × Int:=if (fenceOk gs && memOk gs q.1)=true then (1,q.2) else (0,0)
def cntEv (n:Nat):List Ev:=(List.range n).map fun (i:Nat)=>(1,(i:Int),0)
def pairEv (cs:List (Nat × Nat)):List Ev:=cs.map fun c=>(3,(c.1:Int),(c.2:Int))
end
section
open Go.RowKit Go.Shelf
theorem cntEv_len (k:Nat):(cntEv k).length=k:=by unfold cntEv;rw [List.length_map,List.length_range]
end
section
open Go.RowKit Go.Shelf
theorem pairEv_len (cs:List (Nat × Nat)):(pairEv cs).length=cs.length:=by simp [pairEv]
end
end Go.Proofs.YtfljlmleiggmjaaGreatDoor
