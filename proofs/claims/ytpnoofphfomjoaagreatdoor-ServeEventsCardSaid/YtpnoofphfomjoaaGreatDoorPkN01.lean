/- ScopeB -/
import Derived.RegionTactic
import Derived.ScopeJumps
import Derived.WalkMore
import Derived.Test.YtpnoofphfomjoaaGreatDoorPkM01
import Derived.Test.YtpnoofphfomjoaaGreatDoorPkN00
set_option maxRecDepth 1000000
set_option maxHeartbeats 8000000
namespace Go.Proofs.YtpnoofphfomjoaaGreatDoor
section
open Go.RowKit
attribute [go_sem] jump_ret jump_normal jump_exit jump_panic
end
end Go.Proofs.YtpnoofphfomjoaaGreatDoor
