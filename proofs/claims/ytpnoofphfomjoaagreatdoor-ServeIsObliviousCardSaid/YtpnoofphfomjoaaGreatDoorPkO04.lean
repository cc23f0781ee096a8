/- RefEvents RefEvents16 RefEvents19 -/
import Derived.Test.YtpnoofphfomjoaaGreatDoorPkM30
import Derived.Test.YtpnoofphfomjoaaGreatDoorPkO02
import Derived.Test.YtpnoofphfomjoaaGreatDoorPkO03
set_option maxRecDepth 1000000
set_option maxHeartbeats 8000000
namespace Go.Proofs.YtpnoofphfomjoaaGreatDoor
section
open Go.RowKit
theorem locEv_length (l:List Nat):(locEv l).length=l.length:=by simp [locEv]
theorem vEv_range_length (n k:Nat):(vEv n (List.range k)).length≤k*n:=by
 have h:=vEv_length n (List.range k)
 rwa [List.length_range] at h
end
section
open Go.RowKit
theorem rgVEv_len (n:Nat):(vEv n (List.range (edgeN n))).length≤4096:=by
 have h:=vEv_range_length n (edgeN n)
 by_cases h64:3≤n∧n≤64
 · have e:edgeN n=n:=by unfold edgeN;rw [if_pos h64]
   rw [e] at h ⊢
   exact Nat.le_trans h (Nat.mul_le_mul h64.2 h64.2)
 · have e:edgeN n=0:=by unfold edgeN;rw [if_neg h64]
   rw [e] at h ⊢
   omega
def hvEv1 (v:Int):List Ev:=if v=0 then [(4,0,2)] else vEv v.toNat (List.range (edgeN v.toNat))
def hvEv:Nat→List Rg→List Ev
 | _,[]=>[]
 | i,r::rs=>(7,(i:Int),0)::(hvEv1 r.v++hvEv (i+1) rs)
theorem hvEv1_length (v:Int):(hvEv1 v).length≤4096:=by
 unfold hvEv1
 split
 · simp
 · have h:=rgVEv_len v.toNat;exact h
theorem hvEv_length:∀ (i:Nat) (l:List Rg),(hvEv i l).length≤4097*l.length
 | i,[]=>by simp [hvEv]
 | i,x::l=>by
   have h:=hvEv_length (i+1) l
   have h2:=hvEv1_length x.v
   simp only [hvEv,List.length_cons,List.length_append]
   omega
def hmEv1 (v:Int):List Ev:=if v=0 then [(6,0,0)] else locEv (List.range (edgeN v.toNat))
def hmEv:Nat→List Rg→List Ev
 | _,[]=>[]
 | i,r::rs=>(7,(i:Int),1)::(hmEv1 r.v++hmEv (i+1) rs)
end
section
open Go.RowKit Go.Shelf
def evH (op vs:Int) (hrs:List Rg):List Ev :=
 if op=3 then vEv vs.toNat (List.range (edgeN vs.toNat))++locEv (List.range (edgeN vs.toNat)) else if op=4 then hvEv 0 hrs++hmEv 0 hrs else []
end
end Go.Proofs.YtpnoofphfomjoaaGreatDoor
