/- Limb3 -/
import Derived.Deep.AppendLies
import Derived.Deep.RegionLaw
import Derived.Laws.Externs
import Derived.Laws.MakeOwn
import Derived.Lib.SliceRun
import Derived.OwnWalk
import Derived.Shelf.Bits.Mul64
import Derived.Shelf.Spec.BitsCarry
import Derived.Test.YtfljlmleiggmjaaGreatDoorPkB14
import Derived.Test.YtfljlmleiggmjaaGreatDoorPkB29
set_option maxRecDepth 1000000
set_option maxHeartbeats 8000000
namespace Go.Proofs.YtfljlmleiggmjaaGreatDoor
section
open Go.RowKit
def lenOf:Value→Nat
 | .slice _ n _=>n
 | _=>0
end
section
open Go.RowKit
end
section
open Go.RowKit
end
end Go.Proofs.YtfljlmleiggmjaaGreatDoor
