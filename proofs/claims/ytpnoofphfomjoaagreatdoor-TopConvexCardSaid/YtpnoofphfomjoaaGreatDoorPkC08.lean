/- OpenPoint -/
import Derived.Test.YtpnoofphfomjoaaGreatDoorPkM45
set_option maxRecDepth 1000000
set_option maxHeartbeats 8000000
namespace Go.Proofs.YtpnoofphfomjoaaGreatDoor
section
open Go.ChangeShapes Go.WideShapes Go.ChangeAt Go.RowKit
section
variable {H:Type} {enc:TypeId × Value→H} {W:World}
theorem open_point {base:Nat} {v:Value} {d:DataW H} {ps:List MemPlace} (hv:Value.okWide Tryz.prog W .any base 69 v) (h:DataW.Trod enc Tryz.prog W 0 (fun _=>true) true 69 v d ps) :
 ∃ p:Int × Int,v=.agg #[.int .i64 p.1,.int .i64 p.2]∧I64 p.1∧I64 p.2:=by
 obtain ⟨v0,v1,y0,y1,n,rfl,_,_,h0,h1⟩:=Go.Joins.open_agg2 Tryz.underlying69 (by kernel_rfl) (by kernel_rfl) hv h
 obtain ⟨a,e0,_,w0⟩:=DataW.trod_int Tryz.underlying2 h0
 obtain ⟨b,e1,_,w1⟩:=DataW.trod_int Tryz.underlying2 h1
 simp only [List.cons.injEq,and_true] at e0 e1
 subst e0 e1
 exact ⟨(a,b),rfl,bounds_i64 w0,bounds_i64 w1⟩
end
end
end Go.Proofs.YtpnoofphfomjoaaGreatDoor
