/- FenceSize -/
import Derived.Test.YtfljlmleiggmjaaGreatDoorPkB00
set_option maxRecDepth 1000000
set_option maxHeartbeats 8000000
namespace Go.Proofs.YtfljlmleiggmjaaGreatDoor
section
open Go.RowKit
theorem refSize_any (v:Int) (w:World) :
 Calls Tryz.prog 49 #[.int .i64 v] w fun e w'=>e=.returned (.int .i64 (sizeOfReg v))∧w=w':=by
 go_enter Tryz.func49,Tryz.ntmps49
 go_wp2
 all_goals go_ret
 · have h:(v == 0)=true:=by assumption
   have h0:v=0:=by simpa using h
   exact ⟨ret_int (by simp [sizeOfReg,h0]),rfl⟩
 all_goals
  have h:(v == 0)=false:=by assumption
  have h0:v≠0:=by simpa using h
  exact ⟨ret_int (by unfold sizeOfReg;rw [if_neg h0];first | rw [if_pos ⟨by assumption,by assumption⟩] | rw [if_neg (by omega)]),rfl⟩
end
end Go.Proofs.YtfljlmleiggmjaaGreatDoor
