/- ServeFacts -/
import Derived.BigQuiet
import Derived.Deep.QuietTactic
import Derived.Lib.SliceRun
import Derived.Test.YtpnoofphfomjoaaGreatDoorPkM04
import Derived.Test.YtpnoofphfomjoaaGreatDoorPkM40
set_option maxRecDepth 1000000
set_option maxHeartbeats 8000000
namespace Go.Proofs.YtpnoofphfomjoaaGreatDoor
section
open Go.RowKit Go.Shelf
theorem gd_cg (x:Gd):gdOf (cg x)=x:=rfl
theorem gds_cg (l:List Gd):(l.map cg).map gdOf=l:=by
 rw [List.map_map]
 exact (List.map_congr_left fun x _=>gd_cg x).trans (List.map_id l)
theorem serve_bad {bs:List Int} (hc:hclass bs≠0):hserve bs=[hclass bs]:=by
 have hd:hdecode bs=(rqZero,hclass bs):=by unfold hdecode;rw [if_neg hc]
 unfold hserve;rw [hd,if_pos hc]
end
end Go.Proofs.YtpnoofphfomjoaaGreatDoor
