/- Txt -/
import Derived.Test.YtfljlmleiggmjaaGreatDoorPkD00
import Derived.Test.YtfljlmleiggmjaaGreatDoorPkD15
set_option maxRecDepth 1000000
set_option maxHeartbeats 8000000
namespace Go.Proofs.YtfljlmleiggmjaaGreatDoor
section
open Go.RowKit
def strOf(l:List UInt8):ByteArray:=⟨l.toArray⟩
theorem Y4(l:List UInt8):(strOf l).size=l.length:=by simp [strOf,ByteArray.size]
def dgB(m:Nat):List UInt8:=(dr m).reverse.map fun d=>UInt8.ofNat (48+d)
def txt(v:Int):List UInt8:=(if v<0 then [45] else [])++dgB v.natAbs
def pd(m u:Nat):List Nat:=(List.range m).map fun i=>u / 65536 ^ i % 65536
end
end Go.Proofs.YtfljlmleiggmjaaGreatDoor