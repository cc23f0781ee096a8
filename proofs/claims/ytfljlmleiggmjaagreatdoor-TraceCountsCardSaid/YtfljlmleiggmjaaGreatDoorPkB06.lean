/- Counts -/
import Derived.BigQuiet
import Derived.Deep.QuietTactic
import Derived.Test.YtfljlmleiggmjaaGreatDoorPkB02
set_option maxRecDepth 1000000
set_option maxHeartbeats 8000000
namespace Go.Proofs.YtfljlmleiggmjaaGreatDoor
section
open Go.RowKit
def cntP (op vs:Int):Int:=if op=1 then 3 else if op=2 then 4 else if op=3 then vs+1 else if op=4 then 1 else 0
def cntQ (op pts:Int):Int:=if op=1∨op=2∨op=3∨op=4 then 0 else pts
section
variable (op vs pts:Int) (hA:Value) (w:World) (h0:-1000≤vs) (h1:vs≤1000)
include h0 h1
end
end
end Go.Proofs.YtfljlmleiggmjaaGreatDoor
