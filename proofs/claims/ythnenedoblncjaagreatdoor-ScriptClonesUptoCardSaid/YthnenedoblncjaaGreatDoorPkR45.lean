/- ScrNil -/
import Derived.Test.YthnenedoblncjaaGreatDoorPkR21
import Derived.Test.YthnenedoblncjaaGreatDoorPkR33
set_option maxRecDepth 1000000
set_option maxHeartbeats 8000000
namespace Go.Proofs.YthnenedoblncjaaGreatDoor
section
open Go.RowKit Go.Shelf
theorem gJ(L x:List UInt8)(xs:List (List UInt8))(hL:L.length<=1000000)(hsp:sp 32 L=x::xs)(hn:Xa x=0)(sA:Addr)(w:World)(hp:PT w):
 Calls Tryz.prog 21 #[.pointer (some sA),.string (strOf L)] w fun e w'=>e=.returned (.string (strOf (YW 11)))/\Below w.heap.size w w':=by
 refine wJ L x xs hL hsp 0 hn sA w rfl _ fun w1 hb=>(Yj 11 (by unfold Zg;omega) w1 (hp.step hb)).mono ?_;rintro e w2 ⟨rfl,hb2⟩;exact ⟨_,rfl,rfl,Z8 hb hb2⟩
end
end Go.Proofs.YthnenedoblncjaaGreatDoor