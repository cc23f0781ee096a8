/- ScrNil -/
import Derived.ChangeAlike
import Derived.Test.YthnenedoblncjaaGreatDoorPkN20
import Derived.Test.YthnenedoblncjaaGreatDoorPkN21
set_option maxRecDepth 1000000
set_option maxHeartbeats 8000000
namespace Go.Proofs.YthnenedoblncjaaGreatDoor
open Go.Proofs.Tryz
section
open Go.RowKit Go.Shelf
theorem GZ(L:ByteArray)(w:World)(hp:PT w):Calls prog 21 #[.pointer none,.string L] w fun e w'=>e=.returned (.string (strOf (Zr 1)))/\Below w.heap.size w w':=by
 have HF:=hide (YR 1 (by unfold Zj;omega) w hp);clear hp;go_enter func21,ntmps21;go_wp2_with fail;refine HF.out.mono ?_;rintro e w' ⟨rfl,hb⟩;go_wp2;go_ret;exact ⟨rfl,hb⟩
theorem J5(w:World):Calls prog 29 #[.pointer none] w fun e w'=>e=.returned (.pointer none)/\w'=w:=by
 go_enter func29,ntmps29;go_wp2;go_ret;exact ⟨rfl,rfl⟩
end
end Go.Proofs.YthnenedoblncjaaGreatDoor