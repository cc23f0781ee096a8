/- Valid RefEvents RefEvents16 -/
import Derived.Deep.RegionHeld
import Derived.Laws.Externs
import Derived.OrdersHeld
import Derived.OrdersIn
import Derived.OwnWalkIn
import Derived.Scope
import Derived.Shelf.Bits.Mul64
import Derived.Shelf.Spec.BitsCarry
import Derived.Test.YtfljlmleiggmjaaGreatDoorPkB01
import Derived.Test.YtfljlmleiggmjaaGreatDoorPkB34
set_option maxRecDepth 1000000
set_option maxHeartbeats 8000000
namespace Go.Proofs.YtfljlmleiggmjaaGreatDoor
section
open Go.RowKit Go.Shelf
section
variable {F:Fence} {n:Nat} {P:Program} {b:Frame} {a:Act} {k:List Item} {cs:List Frame} {w:World} {Q:Exit→Act→World→Prop}
end
theorem evI_length (x nx k:Nat):(evI x nx k).length≤k:=by
 unfold evI
 rw [List.length_map]
 exact Nat.le_trans (List.length_filter_le _ _) (by simp)
theorem vEv_length (n:Nat):∀ pre:List Nat,(vEv n pre).length≤pre.length*n
 | []=>by simp [vEv]
 | x::r=>by
   have h1:=vEv_length n r
   have h2:=evI_length x ((x+1) % n) n
   have e:vEv n (x::r)=evI x ((x+1) % n) n++vEv n r:=by simp [vEv]
   rw [e,List.length_append,List.length_cons,Nat.add_mul]
   omega
end
section
open Go.RowKit
theorem locEv_length (l:List Nat):(locEv l).length=l.length:=by simp [locEv]
theorem vEv_range_length (n k:Nat):(vEv n (List.range k)).length≤k*n:=by
 have h:=vEv_length n (List.range k)
 rwa [List.length_range] at h
end
section
open Go.RowKit
theorem rgVEv_len (n:Nat):(vEv n (List.range (edgeN n))).length≤4096:=by
 have h:=vEv_range_length n (edgeN n)
 by_cases h64:3≤n∧n≤64
 · have e:edgeN n=n:=by unfold edgeN;rw [if_pos h64]
   rw [e] at h ⊢
   exact Nat.le_trans h (Nat.mul_le_mul h64.2 h64.2)
 · have e:edgeN n=0:=by unfold edgeN;rw [if_neg h64]
   rw [e] at h ⊢
   omega
theorem hvEv1_length (v:Int):(hvEv1 v).length≤4096:=by
 unfold hvEv1
 split
 · simp
 · have h:=rgVEv_len v.toNat;exact h
theorem hvEv_length:∀ (i:Nat) (l:List Rg),(hvEv i l).length≤4097*l.length
 | i,[]=>by simp [hvEv]
 | i,x::l=>by
   have h:=hvEv_length (i+1) l
   have h2:=hvEv1_length x.v
   simp only [hvEv,List.length_cons,List.length_append]
   omega
end
end Go.Proofs.YtfljlmleiggmjaaGreatDoor
