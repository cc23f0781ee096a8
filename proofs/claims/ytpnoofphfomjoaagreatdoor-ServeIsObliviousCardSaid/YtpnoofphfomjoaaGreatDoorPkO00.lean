/- Words -/
import Derived.BigQuiet
import Derived.Deep.Draws
import Derived.Deep.QuietTactic
import Derived.Deep.RegionWith
import Derived.Test.YtpnoofphfomjoaaGreatDoorRows
import Derived.WalkKit
import Derived.WalkLawsBesides
import Derived.WalkSpells
import Derived.Test.YtpnoofphfomjoaaGreatDoorPkM00
set_option maxRecDepth 1000000
set_option maxHeartbeats 8000000
namespace Go.Proofs.YtpnoofphfomjoaaGreatDoor
section
open Go.RowKit
theorem below_of_drewN {B:Nat} {a w:World} {k:Nat} (h:Below B (a.drewN k) w):Below B a w:=⟨h.os,h.tape,h.output,h.size,h.block⟩
section
variable {w w':World} {g:Nat} {t:TypeId} {cs:Array Value}
end
end
end Go.Proofs.YtpnoofphfomjoaaGreatDoor
