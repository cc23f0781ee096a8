/- RefEv20 RefEv20B -/
import Derived.Test.YtpnoofphfomjoaaGreatDoorPkM35
import Derived.Test.YtpnoofphfomjoaaGreatDoorPkO04
set_option maxRecDepth 1000000
set_option maxHeartbeats 8000000
namespace Go.Proofs.YtpnoofphfomjoaaGreatDoor
section
open Go.RowKit Go.Shelf
theorem cntEv_len (k:Nat):(cntEv k).length=k:=by unfold cntEv;rw [List.length_map,List.length_range]
end
section
open Go.RowKit Go.Shelf
theorem pairEv_snocR (cs:List (Nat × Nat)) (c:Nat × Nat):pairEv (cs++[c])=pairEv cs++[(3,(c.1:Int),(c.2:Int))]:=by simp [pairEv]
theorem pairEv_len (cs:List (Nat × Nat)):(pairEv cs).length=cs.length:=by simp [pairEv]
end
end Go.Proofs.YtpnoofphfomjoaaGreatDoor
