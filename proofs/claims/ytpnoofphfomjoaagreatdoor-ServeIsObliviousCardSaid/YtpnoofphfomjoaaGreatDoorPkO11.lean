/- Open -/
import Derived.Deep.DeepHandedRow
import Derived.Deep.Slices
import Derived.Deep.Strs
import Derived.Lib.LaidTab
import Derived.Lib.SmallJoins
import Derived.OpenShut
import Derived.ProofKit
import Derived.Test.YtpnoofphfomjoaaGreatDoorPkM44
import Derived.Test.YtpnoofphfomjoaaGreatDoorPkM45
import Derived.Test.YtpnoofphfomjoaaGreatDoorPkO00
set_option maxRecDepth 1000000
set_option maxHeartbeats 8000000
namespace Go.Proofs.YtpnoofphfomjoaaGreatDoor
section
open Go.ChangeShapes Go.WideShapes Go.ChangeAt Go.RowKit
section
variable {H:Type} {enc:TypeId × Value→H} {W:World}
theorem open_header {base:Nat} {v:Value} {d:DataW H} {ps:List MemPlace} (hv:Value.okWide Tryz.prog W .any base 24 v) (h:DataW.Trod enc Tryz.prog W 0 (fun _=>true) true 24 v d ps) :
 ∃ (op vs pts:Int) (A:Option Addr) (qs:List (Rg × List (Int × Int))) (c:Nat),v=.agg #[.int .i64 op,.int .i64 vs,.slice A (qs.map (·.1)).length c,.int .i64 pts]∧I64 op∧I64 vs∧I64 pts ∧
   qs.length≤c∧c≤maxLen∧Sl W W.heap.size A (rgCells (qs.map (·.1)))∧(∀ q∈qs,RgOk W q.1 q.2):=by
 obtain ⟨v0,v1,v2,v3,y0,y1,y2,y3,n,rfl,_,_,h0,h1,h2,h3⟩:=Go.Joins.open_agg4 Tryz.underlying24 (by kernel_rfl) (by kernel_rfl) hv h
 obtain ⟨op,e0,_,w0⟩:=DataW.trod_int Tryz.underlying3 h0
 obtain ⟨vs,e1,_,w1⟩:=DataW.trod_int Tryz.underlying3 h1
 obtain ⟨A,qs,c,e2,hl,hc,hs,hq⟩:=trod_regions h2
 obtain ⟨pts,e3,_,w3⟩:=DataW.trod_int Tryz.underlying3 h3
 simp only [List.cons.injEq,and_true] at e0 e1 e2 e3
 subst e0 e1 e2 e3
 exact ⟨op,vs,pts,A,qs,c,by rw [List.length_map],bounds_i64 w0,bounds_i64 w1,bounds_i64 w3,hl,hc,hs,hq⟩
end
end
end Go.Proofs.YtpnoofphfomjoaaGreatDoor
