/- Encode Read DecFacts -/
import Derived.BigQuiet
import Derived.Deep.QuietTactic
import Derived.Deep.RegionHeld3
import Derived.Deep.RegionLaw
import Derived.Test.YtfljlmleiggmjaaGreatDoorPkB07
import Derived.Test.YtfljlmleiggmjaaGreatDoorPkB08
set_option maxRecDepth 1000000
set_option maxHeartbeats 8000000
namespace Go.Proofs.YtfljlmleiggmjaaGreatDoor
section
open Go.RowKit
abbrev Gr:=Rg × List (Int × Int)
def GsOk (w:World) (B:Nat) (gs:List Gr):Prop:=∀ g∈gs,g.1.n=g.2.length∧Sl w B g.1.A (ptCs g.2)
section
variable (op vs pts:Int) (hrs:List Rg) (HA:Option Addr) (hc:Nat) (gs:List Gr) (GA:Option Addr) (gc:Nat) (ps:List (Int × Int)) (PA:Option Addr) (pc:Nat) (qs:List ((Int × Int) × Int)) (QA:Option Addr) (qc:Nat) (w:World)
variable (hh:Sl w w.heap.size HA (rgCells hrs)) (hgc:Sl w w.heap.size GA (rgCells (gs.map (·.1)))) (hgs:GsOk w w.heap.size gs) (hps:Sl w w.heap.size PA (ptCs ps)) (hqs:Sl w w.heap.size QA (quCs qs))
variable (hn:hrs.length≤maxLen)
include hh hgc hgs hps hqs hn
end
end
section
open Go.RowKit
structure Ans where
 val:Int
 cnt:Int
 recs:List (Int × Int)
def ansZero:Ans:=⟨0,0,[]⟩
def rdAns (op pts:Int) (bs:List Int):Ans :=
 ⟨bs.getD 1 0,if op=5 then bs.getD 2 0+bs.getD 3 0*256 else 0,if op=5 then recsOf (bs.drop 4) pts.toNat else []⟩
def hread (op vs:Int) (hrs:List Rg) (pts:Int) (bs:List Int):Ans × Int :=
 if hcheck op vs hrs pts≠0 then (ansZero,hcheck op vs hrs pts)
 else if bs.length=1 then (ansZero,if 4≤bs.getD 0 0∧bs.getD 0 0≤8 then bs.getD 0 0 else 10)
 else if (bs.length:Int)≠hresp op vs hrs pts then (ansZero,8)
 else if bs.getD 0 0≠0 then (ansZero,10)
 else if isAns op pts (rdAns op pts bs).val (rdAns op pts bs).cnt (rdAns op pts bs).recs=false then (ansZero,10)
 else (rdAns op pts bs,0)
section
variable (op vs pts:Int) (hrs:List Rg) (HA:Option Addr) (hc:Nat) (bs:List Int) (BA:Option Addr) (bc:Nat) (w:World)
variable (hh:Sl w w.heap.size HA (rgCells hrs)) (hn:hrs.length≤maxLen) (hs:Sl w w.heap.size BA (byCells bs)) (hbc:bs.length≤bc) (hbl:bs.length≤100000) (hby:By bs)
include hh hn hs hbc hbl hby
end
end
section
open Go.RowKit
abbrev Gd:=Bool × Int × List (Int × Int)
structure Rq where
 h:PH
 gs:List Gd
 ps:List (Int × Int)
 qs:List ((Int × Int) × Int)
def rqZero:Rq:=⟨phZero,[],[],[]⟩
def gdOf (g:Gr):Gd:=(g.1.d,g.1.v,g.2)
structure ReadsRq (w:World) (B:Nat) (q:Rq) (hrs:List Rg) (HA:Option Addr) (gs:List Gr) (GA PA QA:Option Addr):Prop where
 hh:Sl w B HA (rgCells hrs)
 hk:hrs.map Rg.key=q.h.rs.map Rg.key
 hg:Sl w B GA (rgCells (gs.map (·.1)))
 gk:GsOk w B gs
 gd:gs.map gdOf=q.gs
 hp:Sl w B PA (ptCs q.ps)
 hq:Sl w B QA (quCs q.qs)
theorem ReadsRq.zero (w:World) (B:Nat):ReadsRq w B rqZero [] none [] none none none :=
 ⟨.nil _ _ _,rfl,.nil _ _ _,fun g hg=>by simp at hg,rfl,.nil _ _ _,.nil _ _ _⟩
theorem ReadsRq.below {w w':World} {B:Nat} {q:Rq} {hrs:List Rg} {HA:Option Addr} {gs:List Gr} {GA PA QA:Option Addr} (h:ReadsRq w B q hrs HA gs GA PA QA) (hb:Below B w w'):ReadsRq w' B q hrs HA gs GA PA QA :=
 ⟨h.hh.below hb,h.hk,h.hg.below hb,fun g hg=>⟨(h.gk g hg).1,(h.gk g hg).2.below hb⟩,h.gd,h.hp.below hb,h.hq.below hb⟩
theorem ReadsRq.more {w:World} {B B':Nat} {q:Rq} {hrs:List Rg} {HA:Option Addr} {gs:List Gr} {GA PA QA:Option Addr} (h:ReadsRq w B q hrs HA gs GA PA QA) (hB:B≤B'):ReadsRq w B' q hrs HA gs GA PA QA :=
 ⟨h.hh.more hB,h.hk,h.hg.more hB,fun g hg=>⟨(h.gk g hg).1,(h.gk g hg).2.more hB⟩,h.gd,h.hp.more hB,h.hq.more hB⟩
end
section
open Go.RowKit
section
variable {w w' wa:World} {B C g:Nat} {A:Option Addr} {xs:List Value} {P:Nat→Prop} {bs:List Int}
def QI (w:World) (C:Nat) (gs:List Gr) (v:Value):Prop :=
 w.ownsRow C 61 3 v gs.length (rgCells (gs.map (·.1)))∧∀ g∈gs,g.1.n=g.2.length∧Sl w w.heap.size g.1.A (ptCs g.2)∧(ptCs g.2≠[]→∀ x,g.1.A=some x→C≤x.block∧v.ownBlock≠some x.block)
theorem QI.nil (w:World) (C:Nat):QI w C [] (.slice none 0 0):=⟨World.ownsRow_nil _ _ _ _,fun g hg=>by simp at hg⟩
end
end
end Go.Proofs.YtfljlmleiggmjaaGreatDoor
