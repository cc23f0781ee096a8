/- Read -/
import Derived.Test.YtfljlmleiggmjaaGreatDoorPkC07
import Derived.Test.YtfljlmleiggmjaaGreatDoorPkC08
set_option maxRecDepth 1000000
set_option maxHeartbeats 8000000
namespace Go.Proofs.YtfljlmleiggmjaaGreatDoor
section
open Go.RowKit
structure Ans where
 val:Int
 cnt:Int
 recs:List (Int × Int)
def ansZero:Ans:=⟨0,0,[]⟩
def rdAns (op pts:Int) (bs:List Int):Ans :=
 ⟨bs.getD 1 0,if op=5 then bs.getD 2 0+bs.getD 3 0*256 else 0,if op=5 then recsOf (bs.drop 4) pts.toNat else []⟩
def hread (op vs:Int) (hrs:List Rg) (pts:Int) (bs:List Int):Ans × Int :=
 if hcheck op vs hrs pts≠0 then (ansZero,hcheck op vs hrs pts)
 else if bs.length=1 then (ansZero,if 4≤bs.getD 0 0∧bs.getD 0 0≤8 then bs.getD 0 0 else 10)
 else if (bs.length:Int)≠hresp op vs hrs pts then (ansZero,8)
 else if bs.getD 0 0≠0 then (ansZero,10)
 else if isAns op pts (rdAns op pts bs).val (rdAns op pts bs).cnt (rdAns op pts bs).recs=false then (ansZero,10)
 else (rdAns op pts bs,0)
section
variable (op vs pts:Int) (hrs:List Rg) (HA:Option Addr) (hc:Nat) (bs:List Int) (BA:Option Addr) (bc:Nat) (w:World)
variable (hh:Sl w w.heap.size HA (rgCells hrs)) (hn:hrs.length≤maxLen) (hs:Sl w w.heap.size BA (byCells bs)) (hbc:bs.length≤bc) (hbl:bs.length≤100000) (hby:By bs)
include hh hn hs hbc hbl hby
end
end
end Go.Proofs.YtfljlmleiggmjaaGreatDoor
