/- Edges Locate Valid ConvexMath RefEvents19 -/
import Derived.LoopIn
import Derived.LoopNIn
import Derived.OwnWalkIn
import Derived.RangeFuncBound
import Derived.RangeFuncCalls
import Derived.RangeFuncLeaves
import Derived.RangeFuncNested
import Derived.Scope
import Derived.Shelf.Abstract
import Derived.Shelf.RegionOpen
import Derived.TacticsInMore
import Derived.Test.YtpnoofphfomjoaaGreatDoorPkM07
import Derived.Test.YtpnoofphfomjoaaGreatDoorPkM34
import Derived.Test.YtpnoofphfomjoaaGreatDoorPkD00
set_option maxRecDepth 1000000
set_option maxHeartbeats 8000000
namespace Go.Proofs.YtpnoofphfomjoaaGreatDoor
section
open Go.RowKit Go.Shelf
attribute [local go_sem] Oper.semAt_some
end
section
open Go.RowKit Go.Shelf
attribute [local go_sem] Oper.semAt_some
end
section
open Go.RowKit Go.Shelf
attribute [local go_sem] Oper.semAt_some
section
variable {F:Fence} {n:Nat} {P:Program} {b:Frame} {a:Act} {k:List Item} {cs:List Frame} {w:World} {Q:Exit→Act→World→Prop}
end
end
section
open Go.RowKit
theorem md {a n:Nat} (h:a<2*n):(a<n∧a % n=a)∨(n≤a∧a % n=a - n):=by
 by_cases h1:a<n
 · exact .inl ⟨h1,Nat.mod_eq_of_lt h1⟩
 · refine .inr ⟨by omega,?_⟩
   rw [Nat.mod_eq_sub_mod (by omega),Nat.mod_eq_of_lt (by omega)]
def Tn (ps ps':List Pt) (ep:Int):Prop:=ps'.length=ps.length∧(ep=1∨ep=-1)∧∃ f g:Nat→Nat,∀ i,i<ps.length →
 f i<ps.length∧g i<ps.length∧(∀ c,orientD (ptAt ps' i) (ptAt ps' ((i+1) % ps.length)) c=ep*orientD (ptAt ps (f i)) (ptAt ps ((f i+1) % ps.length)) c)∧ptAt ps' i=ptAt ps (g i) ∧
 ∀ j,j<ps.length→j≠i→j≠(i+1) % ps.length→g j≠f i∧g j≠(f i+1) % ps.length
end
section
open Go.RowKit Go.Shelf
theorem wpIn_append_of {F:Fence} {n:Nat} {P:Program} {o:Oper} {a:Act} {w:World} {K:Act→World→Prop} {Q:Exit→Act→World→Prop} (s x:Operand) (t:TypeId)
 (hop:o.op=Op.call { callee:=Callee.builtin Builtin.append,args:=#[s,x],argTypes:=#[t,t] }) (v xv:Value) (hs:a.eval s=v) (hx:a.eval x=xv) {v':Value} {w':World}
 (hrun:(Builtin.append_ #[t,t] o.type #[v,xv]).run P w=.ok v' w') (hK:K (a.put o.dst v') w'):Oper.wpIn F n P o a w K Q:=by
 unfold Oper.wpIn
 refine ⟨by simp [Oper.about,hop,resolve,Target.leads,Sem.run_pure],?_⟩
 rw [Oper.semAt_plain F _ _ (by rw [hop];intro c hc';cases hc')]
 simp [execOp,hop,resolve,invoke,builtin,hs,hx,hrun,Result.andThen]
 exact hK
end
end Go.Proofs.YtpnoofphfomjoaaGreatDoor
