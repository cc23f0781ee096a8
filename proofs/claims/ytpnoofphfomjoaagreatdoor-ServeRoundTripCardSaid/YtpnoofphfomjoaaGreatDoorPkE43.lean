/- Events -/
import Derived.Deep.QuietTactic
import Derived.BigQuiet
import Derived.Lib.SliceRun
import Derived.Test.YtpnoofphfomjoaaGreatDoorPkE05
import Derived.Test.YtpnoofphfomjoaaGreatDoorPkE26
namespace Go.Proofs.YtpnoofphfomjoaaGreatDoor
open Go.RowKit Go.Maps
end Go.Proofs.YtpnoofphfomjoaaGreatDoor
