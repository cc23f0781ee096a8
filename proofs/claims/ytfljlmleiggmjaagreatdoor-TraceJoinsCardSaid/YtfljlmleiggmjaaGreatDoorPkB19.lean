/- Txt -/
import Derived.Test.YtfljlmleiggmjaaGreatDoorPkB18
set_option maxRecDepth 1000000
set_option maxHeartbeats 8000000
namespace Go.Proofs.YtfljlmleiggmjaaGreatDoor
section
open Go.RowKit
theorem strOf_app (a b:List UInt8):strOf a++strOf b=strOf (a++b):=by
 apply ByteArray.ext
 simp [strOf]
end
end Go.Proofs.YtfljlmleiggmjaaGreatDoor
