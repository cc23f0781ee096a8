/- ScopeB HdLaws OpenSlices -/
import Derived.RegionTactic
import Derived.ScopeJumps
import Derived.WalkMore
import Derived.Test.YtpnoofphfomjoaaGreatDoorPkM07
import Derived.Test.YtpnoofphfomjoaaGreatDoorPkM08
import Derived.Test.YtpnoofphfomjoaaGreatDoorPkM45
set_option maxRecDepth 1000000
set_option maxHeartbeats 8000000
namespace Go.Proofs.YtpnoofphfomjoaaGreatDoor
section
open Go.RowKit
attribute [go_sem] jump_ret jump_normal jump_exit jump_panic
end
section
open Go.RowKit
theorem fbytes_byte {op vs pts:Int} {rs:List Rg} (h:hcheck op vs rs pts=0):∀ (j:Nat) (x:Int),(fbytes op vs rs pts)[j]?=some x→0≤x∧x≤255:=by
 obtain ⟨h1,h2,h3,hv,h4,hl,h5,hp,_⟩:=hcheck_zero h
 intro j x hx
 have hm:=List.mem_of_getElem? hx
 unfold fbytes at hm
 simp only [List.mem_append,List.mem_singleton,List.mem_map] at hm
 rcases hm with ((hm | hm) | ⟨r,hr,hm⟩) | hm
 · omega
 · by_cases c3:op=3
   · rw [if_pos c3] at hm;simp at hm;have:=h3 c3;omega
   · rw [if_neg c3] at hm
     by_cases c4:4≤op
     · rw [if_pos c4] at hm;simp at hm;have:=h4 c4;omega
     · rw [if_neg c4] at hm;simp at hm
 · by_cases c4:4≤op
   · have:=verts_ok (h4 c4).2.2 r hr
     subst hm
     unfold fbyte;split <;> omega
   · rw [hl (by omega)] at hr;simp at hr
 · by_cases c5:op=5
   · rw [if_pos c5] at hm
     have:=h5 c5
     simp at hm
     rcases hm with rfl | rfl <;> omega
   · rw [if_neg c5] at hm;simp at hm
end
section
open Go.ChangeShapes Go.WideShapes Go.ChangeAt Go.RowKit
section
variable {H:Type} {enc:TypeId × Value→H} {W:World}
theorem open_points {base:Nat} {v:Value} {d:DataW H} {ps:List MemPlace} (hv:Value.okWide Tryz.prog W .any base 25 v) (h:DataW.Trod enc Tryz.prog W 0 (fun _=>true) true 25 v d ps) :
 ∃ (A:Option Addr) (pl:List (Int × Int)) (c:Nat),v=.slice A pl.length c∧pl.length≤c∧c≤maxLen∧Sl W W.heap.size A (ptCs pl)∧(∀ p∈pl,I64 p.1∧I64 p.2):=by
 obtain ⟨a0,len,cap,rfl⟩:=okWide_slice Tryz.underlying25 hv
 obtain ⟨fuel,hf⟩:=h
 obtain ⟨A,pl,c,e,h1,h2,h3,h4⟩:=trod_points hf
 have e':a0=A∧len=pl.length∧cap=c:=by simpa [Value.cells] using e
 obtain ⟨rfl,rfl,rfl⟩:=e'
 exact ⟨a0,pl,cap,rfl,h1,h2,h3,h4⟩
end
end
end Go.Proofs.YtpnoofphfomjoaaGreatDoor
