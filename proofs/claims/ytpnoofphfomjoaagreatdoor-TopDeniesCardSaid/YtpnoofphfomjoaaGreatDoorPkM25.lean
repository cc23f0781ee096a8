/- Orient -/
import Derived.Test.YtpnoofphfomjoaaGreatDoorPkM24
set_option maxRecDepth 1000000
set_option maxHeartbeats 8000000
namespace Go.Proofs.YtpnoofphfomjoaaGreatDoor
section
open Go.RowKit
def ptV (p:Pt):Value:=.agg #[.int .i64 p.1,.int .i64 p.2]
end
end Go.Proofs.YtpnoofphfomjoaaGreatDoor
