/- RefEv20C -/
import Derived.Deep.AppendLies
import Derived.Deep.RegionHeld
import Derived.Deep.RegionHeld3
import Derived.Deep.RegionLaw
import Derived.Laws.Externs
import Derived.OrdersHeld
import Derived.OrdersIn
import Derived.OwnWalkIn
import Derived.Shelf.Bits.Mul64
import Derived.Shelf.Spec.BitsCarry
import Derived.Test.YtfljlmleiggmjaaGreatDoorPkB03
import Derived.Test.YtfljlmleiggmjaaGreatDoorPkB10
import Derived.Test.YtfljlmleiggmjaaGreatDoorPkB38
import Derived.Test.YtfljlmleiggmjaaGreatDoorPkB45
set_option maxRecDepth 1000000
set_option maxHeartbeats 8000000
namespace Go.Proofs.YtfljlmleiggmjaaGreatDoor
section
open Go.RowKit Go.Shelf
theorem hitemEv_snoc (rs:List Rg) (k:Nat):hitemEv rs (k+1)=hitemEv rs k++[(8,(k:Int),0)]++hmEv 0 rs:=by
 unfold hitemEv
 rw [List.range_succ,List.flatMap_append]
 simp
theorem hmEv1_64 (v:Int):(hmEv1 v).length≤64:=by
 unfold hmEv1
 split
 · simp
 · rw [locEv_length,List.length_range];unfold edgeN;split <;> omega
theorem hmEv_65:∀ (i:Nat) (l:List Rg),(hmEv i l).length≤65*l.length
 | i,[]=>by simp [hmEv]
 | i,x::l=>by
   have h:=hmEv_65 (i+1) l
   have h2:=hmEv1_64 x.v
   simp only [hmEv,List.length_cons,List.length_append]
   omega
theorem hitemEv_len {rs:List Rg} (h:rs.length≤64):∀ k,(hitemEv rs k).length≤4161*k
 | 0=>by simp [hitemEv]
 | k+1=>by
   have h1:=hitemEv_len h k
   have h2:=hmEv_65 0 rs
   rw [hitemEv_snoc,List.length_append,List.length_append,List.length_singleton]
   omega
theorem netw_100 {n:Nat} (h:n≤100):(netw (lg n)).length≤20000:=by
 have h1:∀ m:Fin 101,(netw (lg m.val)).length≤20000:=by decide +kernel
 exact h1 ⟨n,by omega⟩
end
end Go.Proofs.YtfljlmleiggmjaaGreatDoor
