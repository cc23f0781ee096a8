/- RowKit21 -/
import Derived.Deep.DeepLaidRun
import Derived.Test.YtpnoofphfomjoaaGreatDoorCards
import Derived.Test.YtpnoofphfomjoaaGreatDoorTie
import Derived.Test.YtpnoofphfomjoaaGreatDoorPkM07
import Derived.Test.YtpnoofphfomjoaaGreatDoorPkM25
import Derived.Test.YtpnoofphfomjoaaGreatDoorPkM28
import Derived.Test.YtpnoofphfomjoaaGreatDoorPkM45
set_option maxRecDepth 1000000
set_option maxHeartbeats 8000000
namespace Go.Proofs.YtpnoofphfomjoaaGreatDoor
section
open Go.ChangeShapes Go.WideShapes Go.ChangeAt Go.RowKit
theorem psJ_of {ps:List Pt} (h:∀ p∈ps,I64 p.1∧I64 p.2):PsJ ps:=fun p hp=>by
 have:=h p hp
 unfold I64 at this
 exact ⟨⟨this.1.1,by omega⟩,this.2.1,by omega⟩
theorem pJ_of {p:Pt} (h:I64 p.1∧I64 p.2):PJ p:=by
 unfold I64 at h
 exact ⟨⟨h.1.1,by omega⟩,h.2.1,by omega⟩
end
end Go.Proofs.YtpnoofphfomjoaaGreatDoor
