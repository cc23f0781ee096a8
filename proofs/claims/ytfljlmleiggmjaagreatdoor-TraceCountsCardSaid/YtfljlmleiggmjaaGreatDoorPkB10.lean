/- Reader2 Take DecFacts -/
import Derived.Deep.RegionLaw
import Derived.Test.YtfljlmleiggmjaaGreatDoorPkB06
import Derived.Test.YtfljlmleiggmjaaGreatDoorPkB09
set_option maxRecDepth 1000000
set_option maxHeartbeats 8000000
namespace Go.Proofs.YtfljlmleiggmjaaGreatDoor
section
open Go.RowKit
def i64w (x:Int):Int:=wrap64 x
section
variable (P:Nat→Prop) (B g:Nat) (w:World) (hB:∀ k,k<B→P k)
include hB
end
end
section
open Go.RowKit
def ptRd (bs:List Int) (i:Nat):Int × Int:=(i64w (le (eight bs (16*i))),i64w (le (eight bs (16*i+8))))
def quAt (bs:List Int) (i:Nat):(Int × Int) × Int:=((i64w (le (eight bs (24*i))),i64w (le (eight bs (24*i+8)))),le (eight bs (24*i+16)))
def ptsOf (bs:List Int) (n:Nat):List (Int × Int):=(List.range n).map (ptRd bs)
def qusOf (bs:List Int) (n:Nat):List ((Int × Int) × Int):=(List.range n).map (quAt bs)
section
variable (P:Nat→Prop) (B g:Nat) (w:World) (hB:∀ k,k<B→P k)
include hB
end
section
variable (P:Nat→Prop) (B g:Nat) (w:World) (hB:∀ k,k<B→P k)
include hB
end
end
section
open Go.RowKit
def sizeN (v:Int):Nat:=(sizeOfReg v).toNat
def nSum (rs:List Rg):Nat:=(rs.map fun r=>sizeN r.v).sum
def regsOf:List Rg→List Int→List Gd
 | [],_=>[]
 | r::rs,bs=>(r.d,r.v,ptsOf bs (sizeN r.v))::regsOf rs (bs.drop (16*sizeN r.v))
def rqOf (h:PH) (pl:List Int):Rq :=
 ⟨h,regsOf h.rs pl,ptsOf (pl.drop (16*nSum h.rs)) (cntP h.op h.vs).toNat,qusOf (pl.drop (16*nSum h.rs)) (cntQ h.op h.pts).toNat⟩
def hdecode (bs:List Int):Rq × Int :=
 if hclass bs=0 then (rqOf (hparse bs).1 (bs.drop (hparse bs).2.1.toNat),0) else (rqZero,hclass bs)
end
section
open Go.RowKit
section
variable {w w' wa:World} {B C g:Nat} {A:Option Addr} {xs:List Value} {P:Nat→Prop} {bs:List Int}
end
end
end Go.Proofs.YtfljlmleiggmjaaGreatDoor
