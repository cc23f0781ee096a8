/- Read -/
import Derived.Test.YthnenedoblncjaaGreatDoorPkA05
import Derived.Test.YthnenedoblncjaaGreatDoorPkA06
set_option maxRecDepth 1000000
set_option maxHeartbeats 8000000
namespace Go.Proofs.YthnenedoblncjaaGreatDoor
section
open Go.RowKit
structure qd where
 val:Int
 cnt:Int
 recs:List (Int × Int)
def Xk:qd:=⟨0,0,[]⟩
def Mj(op Z0:Int)(bs:List Int):qd :=
 ⟨bs.getD 1 0,if op=5 then bs.getD 2 0+bs.getD 3 0*256 else 0,if op=5 then DI (bs.drop 4) Z0.toNat else []⟩
def hread(op vs:Int)(hrs:List Rg)(Z0:Int)(bs:List Int):qd × Int :=
 if ZT op vs hrs Z0≠0 then (Xk,ZT op vs hrs Z0)
 else if bs.length=1 then (Xk,if 4<=bs.getD 0 0/\bs.getD 0 0<=8 then bs.getD 0 0 else 10)
 else if (bs.length:Int)≠Ra op vs hrs Z0 then (Xk,8)
 else if bs.getD 0 0≠0 then (Xk,10)
 else if WQ op Z0 (Mj op Z0 bs).val (Mj op Z0 bs).cnt (Mj op Z0 bs).recs=false then (Xk,10)
 else (Mj op Z0 bs,0)
def Hf(r:qd × Int)(w:World)(e:Ending)(w':World):Prop :=
 ∃ A c,e=.returned (.tuple #[.agg #[.int .i64 r.1.val,.int .i64 r.1.cnt,.slice A r.1.recs.length c],.int .i64 r.2])/\Below w.heap.size w w'/\Sl w' w'.heap.size A (ZA r.1.recs)
section
variable (op vs Z0:Int)(hrs:List Rg)(HA:Option Addr)(hc:Nat)(bs:List Int)(BA:Option Addr)(bc:Nat)(w:World)
variable (hh:Sl w w.heap.size HA (rgCells hrs))(hn:hrs.length<=maxLen)(hs:Sl w w.heap.size BA (ZY bs))(hbc:bs.length<=bc)(hbl:bs.length<=100000)(hby:By bs)
include hh hn hs hbc hbl hby
end
end
end Go.Proofs.YthnenedoblncjaaGreatDoor