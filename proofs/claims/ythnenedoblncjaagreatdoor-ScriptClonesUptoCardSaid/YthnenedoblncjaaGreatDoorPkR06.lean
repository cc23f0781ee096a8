/- Read -/
import Derived.Test.YthnenedoblncjaaGreatDoorPkR04
import Derived.Test.YthnenedoblncjaaGreatDoorPkR05
set_option maxRecDepth 1000000
set_option maxHeartbeats 8000000
namespace Go.Proofs.YthnenedoblncjaaGreatDoor
section
open Go.RowKit
structure bU where
 val:Int
 cnt:Int
 recs:List (Int × Int)
def Wv:bU:=⟨0,0,[]⟩
def KN(op ZY:Int)(bs:List Int):bU :=
 ⟨bs.getD 1 0,if op=5 then bs.getD 2 0+bs.getD 3 0*256 else 0,if op=5 then yY (bs.drop 4) ZY.toNat else []⟩
def hread(op vs:Int)(hrs:List Rg)(ZY:Int)(bs:List Int):bU × Int :=
 if ZM op vs hrs ZY≠0 then (Wv,ZM op vs hrs ZY)
 else if bs.length=1 then (Wv,if 4<=bs.getD 0 0/\bs.getD 0 0<=8 then bs.getD 0 0 else 10)
 else if (bs.length:Int)≠Qi op vs hrs ZY then (Wv,8)
 else if bs.getD 0 0≠0 then (Wv,10)
 else if Vr op ZY (KN op ZY bs).val (KN op ZY bs).cnt (KN op ZY bs).recs=false then (Wv,10)
 else (KN op ZY bs,0)
section
variable (op vs ZY:Int)(hrs:List Rg)(HA:Option Addr)(hc:Nat)(bs:List Int)(BA:Option Addr)(bc:Nat)(w:World)
variable (hh:Sl w w.heap.size HA (rgCells hrs))(hn:hrs.length<=maxLen)(hs:Sl w w.heap.size BA (ZU bs))(hbc:bs.length<=bc)(hbl:bs.length<=100000)(hby:By bs)
include hh hn hs hbc hbl hby
end
end
end Go.Proofs.YthnenedoblncjaaGreatDoor