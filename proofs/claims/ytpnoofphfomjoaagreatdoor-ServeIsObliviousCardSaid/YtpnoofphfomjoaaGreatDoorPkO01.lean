/- ScopeB HdLaws -/
import Derived.RegionTactic
import Derived.ScopeJumps
import Derived.WalkMore
import Derived.Test.YtpnoofphfomjoaaGreatDoorPkM05
import Derived.Test.YtpnoofphfomjoaaGreatDoorPkO00
set_option maxRecDepth 1000000
set_option maxHeartbeats 8000000
namespace Go.Proofs.YtpnoofphfomjoaaGreatDoor
section
open Go.RowKit
attribute [go_sem] jump_ret jump_normal jump_exit jump_panic
end
section
open Go.RowKit
theorem fbytes_byte {op vs pts:Int} {rs:List Rg} (h:hcheck op vs rs pts=0):∀ (j:Nat) (x:Int),(fbytes op vs rs pts)[j]?=some x→0≤x∧x≤255:=by
 obtain ⟨h1,h2,h3,hv,h4,hl,h5,hp,_⟩:=hcheck_zero h
 intro j x hx
 have hm:=List.mem_of_getElem? hx
 unfold fbytes at hm
 simp only [List.mem_append,List.mem_singleton,List.mem_map] at hm
 rcases hm with ((hm | hm) | ⟨r,hr,hm⟩) | hm
 · omega
 · by_cases c3:op=3
   · rw [if_pos c3] at hm;simp at hm;have:=h3 c3;omega
   · rw [if_neg c3] at hm
     by_cases c4:4≤op
     · rw [if_pos c4] at hm;simp at hm;have:=h4 c4;omega
     · rw [if_neg c4] at hm;simp at hm
 · by_cases c4:4≤op
   · have:=verts_ok (h4 c4).2.2 r hr
     subst hm
     unfold fbyte;split <;> omega
   · rw [hl (by omega)] at hr;simp at hr
 · by_cases c5:op=5
   · rw [if_pos c5] at hm
     have:=h5 c5
     simp at hm
     rcases hm with rfl | rfl <;> omega
   · rw [if_neg c5] at hm;simp at hm
theorem fbytes_len {op vs pts:Int} {rs:List Rg} (h:hcheck op vs rs pts=0):1≤(fbytes op vs rs pts).length∧(fbytes op vs rs pts).length≤68:=by
 obtain ⟨h1,h2,h3,hv,h4,hl,h5,hp,_⟩:=hcheck_zero h
 have hn:rs.length≤64:=by
  by_cases c4:4≤op
  · exact (h4 c4).2.1
  · rw [hl (by omega)];simp
 unfold fbytes
 simp only [List.length_append,List.length_map,List.length_singleton]
 constructor
 · omega
 · split <;> (try split) <;> (try split) <;> simp <;> omega
end
end Go.Proofs.YtpnoofphfomjoaaGreatDoor
