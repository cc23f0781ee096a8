/- LawTrace1 -/
import Derived.Deep.AppendLies
import Derived.Deep.RegionHeld
import Derived.Deep.RegionHeld3
import Derived.Deep.RegionLaw
import Derived.Laws.Externs
import Derived.OrdersHeld
import Derived.OrdersIn
import Derived.OwnWalkIn
import Derived.Shelf.Bits.Mul64
import Derived.Shelf.Spec.BitsCarry
import Derived.Test.YtfljlmleiggmjaaGreatDoorPkB10
import Derived.Test.YtfljlmleiggmjaaGreatDoorPkB48
import Derived.Test.YtfljlmleiggmjaaGreatDoorPkB58
set_option maxRecDepth 1000000
set_option maxHeartbeats 8000000
namespace Go.Proofs.YtfljlmleiggmjaaGreatDoor
section
open Go.RowKit Go.Shelf
section
variable (es:List Ev) (A:Option Addr) (c:Nat) (w:World)
variable (hs:Sl w w.heap.size A (evCs es)) (hj:∀ e∈es,EvJ e) (hfix:Fixed w) (hg:1<w.heap.size) (hp:PT w)
include hs hj hfix hg hp
theorem lawFormats22:Calls Tryz.prog 5 #[.slice A es.length c] w fun e w'=>e=.returned (.bool true)∧Below w.heap.size w w':=by
 have HAL:=hide (alive22 w hfix hg hp)
 by_cases h5:500<(es.length:Int)
 · clear hs hj hfix hg hp
   go_enter Tryz.func5,Tryz.ntmps5
   go_wp2_with fail
   refine HAL.out.mono ?_
   rintro e w1 ⟨rfl,hb1⟩
   have HB:=hide hb1
   clear hb1
   go_wp2
   go_ret
   exact ⟨rfl,HB.out⟩
 · have HF:=hide (fun (w':World) (hb:Below w.heap.size w w')=>tFormat_any es hj (by omega) A c w' ((hs.below hb).more hb.size) (hp.step hb))
   have HR:=hide (fun (w':World) (hb:Below w.heap.size w w')=>rFormat_any es hj (by omega) A c w' ((hs.below hb).more hb.size))
   obtain ⟨s,hsx⟩:∃ s,s=strOf (fmtT es):=⟨_,rfl⟩
   rw [← hsx] at HF HR
   clear hs hj hfix hg hp hsx
   go_enter Tryz.func5,Tryz.ntmps5
   go_wp2_with fail
   refine HAL.out.mono ?_
   rintro e w1 ⟨rfl,hb1⟩
   have HB1:=hide hb1
   clear hb1
   go_wp2_with fail
   refine (HF.out w1 HB1.out).mono ?_
   rintro e w2 ⟨rfl,hb2⟩
   have HB2:=hide (bl_step HB1.out hb2)
   clear hb2
   go_wp2_with fail
   refine (HR.out w2 HB2.out).mono ?_
   rintro e w3 ⟨rfl,hb3⟩
   have HB3:=hide (bl_step HB2.out hb3)
   clear hb3
   go_wp2
   go_ret
   exact ⟨by simp,HB3.out⟩
end
section
variable (op vs pts:Int) (rs:List Rg) (HA:Option Addr) (hc:Nat) (w:World)
variable (hh:Sl w w.heap.size HA (rgCells rs)) (hn:rs.length≤maxLen) (hfix:Fixed w) (hg:1<w.heap.size) (hp:PT w)
include hh hn hfix hg hp
end
end
end Go.Proofs.YtfljlmleiggmjaaGreatDoor
