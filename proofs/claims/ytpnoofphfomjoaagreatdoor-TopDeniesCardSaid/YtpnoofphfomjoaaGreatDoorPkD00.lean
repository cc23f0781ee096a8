/- ScopeB HdLaws OpenSlices OpenTop OpenArr -/
import Derived.RegionTactic
import Derived.ScopeJumps
import Derived.WalkMore
import Derived.Test.YtpnoofphfomjoaaGreatDoorPkM03
import Derived.Test.YtpnoofphfomjoaaGreatDoorPkM46
import Derived.Test.YtpnoofphfomjoaaGreatDoorPkM59
set_option maxRecDepth 1000000
set_option maxHeartbeats 8000000
namespace Go.Proofs.YtpnoofphfomjoaaGreatDoor
section
open Go.RowKit
attribute [go_sem] jump_ret jump_normal jump_exit jump_panic
end
section
open Go.RowKit
theorem fbytes_byte {op vs pts:Int} {rs:List Rg} (h:hcheck op vs rs pts=0):∀ (j:Nat) (x:Int),(fbytes op vs rs pts)[j]?=some x→0≤x∧x≤255:=by
 obtain ⟨h1,h2,h3,hv,h4,hl,h5,hp,_⟩:=hcheck_zero h
 intro j x hx
 have hm:=List.mem_of_getElem? hx
 unfold fbytes at hm
 simp only [List.mem_append,List.mem_singleton,List.mem_map] at hm
 rcases hm with ((hm | hm) | ⟨r,hr,hm⟩) | hm
 · omega
 · by_cases c3:op=3
   · rw [if_pos c3] at hm;simp at hm;have:=h3 c3;omega
   · rw [if_neg c3] at hm
     by_cases c4:4≤op
     · rw [if_pos c4] at hm;simp at hm;have:=h4 c4;omega
     · rw [if_neg c4] at hm;simp at hm
 · by_cases c4:4≤op
   · have:=verts_ok (h4 c4).2.2 r hr
     subst hm
     unfold fbyte;split <;> omega
   · rw [hl (by omega)] at hr;simp at hr
 · by_cases c5:op=5
   · rw [if_pos c5] at hm
     have:=h5 c5
     simp at hm
     rcases hm with rfl | rfl <;> omega
   · rw [if_neg c5] at hm;simp at hm
end
section
open Go.ChangeShapes Go.WideShapes Go.ChangeAt Go.RowKit
section
variable {H:Type} {enc:TypeId × Value→H} {W:World}
theorem open_regions {base:Nat} {v:Value} {d:DataW H} {ps:List MemPlace} (hv:Value.okWide Tryz.prog W .any base 22 v) (h:DataW.Trod enc Tryz.prog W 0 (fun _=>true) true 22 v d ps) :
 ∃ (A:Option Addr) (gs:List Gr) (c:Nat),v=.slice A gs.length c∧gs.length≤c∧c≤maxLen∧Sl W W.heap.size A (rgCells (gs.map (·.1)))∧GsOk W W.heap.size gs∧(∀ g∈gs,∀ p∈g.2,I64 p.1∧I64 p.2):=by
 obtain ⟨a0,len,cap,rfl⟩:=okWide_slice Tryz.underlying22 hv
 obtain ⟨fuel,hf⟩:=h
 obtain ⟨A,gs,c,e,h1,h2,h3,h4⟩:=trod_regions hf
 have e':a0=A∧len=gs.length∧cap=c:=by simpa [Value.cells] using e
 obtain ⟨rfl,rfl,rfl⟩:=e'
 exact ⟨a0,gs,cap,rfl,h1,h2,h3,fun g hg=>⟨(h4 g hg).2.1,(h4 g hg).2.2.2.2.1⟩,fun g hg=>(h4 g hg).2.2.2.2.2⟩
end
end
section
open Go.ChangeShapes Go.WideShapes Go.ChangeAt Go.RowKit
section
variable {H:Type} {enc:TypeId × Value→H} {W:World}
theorem open_queries {base:Nat} {v:Value} {d:DataW H} {ps:List MemPlace} (hv:Value.okWide Tryz.prog W .any base 26 v) (h:DataW.Trod enc Tryz.prog W 0 (fun _=>true) true 26 v d ps) :
 ∃ (A:Option Addr) (ql:List ((Int × Int) × Int)) (c:Nat),v=.slice A ql.length c∧ql.length≤c∧c≤maxLen∧Sl W W.heap.size A (quCs ql)∧(∀ q∈ql,QOk q):=by
 obtain ⟨a0,len,cap,rfl⟩:=okWide_slice Tryz.underlying26 hv
 obtain ⟨fuel,hf⟩:=h
 obtain ⟨A,ql,c,e,h1,h2,h3,h4⟩:=trod_queries hf
 have e':a0=A∧len=ql.length∧cap=c:=by simpa [Value.cells] using e
 obtain ⟨rfl,rfl,rfl⟩:=e'
 exact ⟨a0,ql,cap,rfl,h1,h2,h3,h4⟩
end
end
section
open Go.ChangeShapes Go.WideShapes Go.ChangeAt Go.RowKit
section
variable {H:Type} {enc:TypeId × Value→H} {W:World}
theorem open_arr3 {base:Nat} {v:Value} {d:DataW H} {ps:List MemPlace} (hv:Value.okWide Tryz.prog W .any base 85 v) (h:DataW.Trod enc Tryz.prog W 0 (fun _=>true) true 85 v d ps) :
 ∃ a b c:Int × Int,v=.agg #[.int .i64 a.1,.int .i64 a.2,.int .i64 b.1,.int .i64 b.2,.int .i64 c.1,.int .i64 c.2]∧(I64 a.1∧I64 a.2)∧(I64 b.1∧I64 b.2)∧(I64 c.1∧I64 c.2):=by
 simp only [Value.okWide,Tryz.underlying85] at hv
 obtain ⟨cs,rfl,h2,_⟩:=hv
 obtain ⟨fuel,hf⟩:=h
 obtain ⟨xs,m,_,_,hl,hlen,hx⟩:=DataW.trod_array Tryz.underlying85 hf
 have hC:Tryz.prog.cellsOf 85=6:=by kernel_rfl
 have hP:Tryz.prog.cellsOf 69=2:=by kernel_rfl
 rw [hC] at hl
 rw [hP] at hx
 obtain ⟨l⟩:=cs
 simp only [Value.cells] at hl hx
 match l,hl with
 | [c0,c1,c2,c3,c4,c5],_ =>
   obtain ⟨z0,e0⟩:∃ z,xs[0]?=some z:=⟨_,List.getElem?_eq_getElem (by omega)⟩
   obtain ⟨z1,e1⟩:∃ z,xs[1]?=some z:=⟨_,List.getElem?_eq_getElem (by omega)⟩
   obtain ⟨z2,e2⟩:∃ z,xs[2]?=some z:=⟨_,List.getElem?_eq_getElem (by omega)⟩
   obtain ⟨a,ea,ha⟩:=trod_point ((hx 0 (by omega)).trans e0)
   obtain ⟨b,eb,hb⟩:=trod_point ((hx 1 (by omega)).trans e1)
   obtain ⟨c,ec,hc⟩:=trod_point ((hx 2 (by omega)).trans e2)
   simp at ea eb ec
   obtain ⟨rfl,rfl⟩:=ea
   obtain ⟨rfl,rfl⟩:=eb
   obtain ⟨rfl,rfl⟩:=ec
   exact ⟨a,b,c,rfl,ha,hb,hc⟩
end
theorem psJ3 {a b c:Int × Int} (ha:I64 a.1∧I64 a.2) (hb:I64 b.1∧I64 b.2) (hc:I64 c.1∧I64 c.2):PsJ [(a.1,a.2),(b.1,b.2),(c.1,c.2)]:=psJ_of fun p hp=>by
 simp at hp
 rcases hp with rfl | rfl | rfl
 · exact ha
 · exact hb
 · exact hc
end
end Go.Proofs.YtpnoofphfomjoaaGreatDoor
