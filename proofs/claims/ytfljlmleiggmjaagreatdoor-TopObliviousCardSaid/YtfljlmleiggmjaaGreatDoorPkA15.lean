/- RefWord RefEncode -/
import Derived.Deep.RegionHeld3
import Derived.Test.YtfljlmleiggmjaaGreatDoorPkA07
import Derived.Test.YtfljlmleiggmjaaGreatDoorPkA14
set_option maxRecDepth 1000000
set_option maxHeartbeats 8000000
namespace Go.Proofs.YtfljlmleiggmjaaGreatDoor
section
open Go.RowKit
def RW (w:World) (P:Nat→Prop) (v:Value) (bs:List Int):Prop :=
 w.ownsRow 0 5 1 v bs.length (byCells bs)∧∀ k,v.ownBlock=some k→¬ P k
theorem RW.step {w w':World} {P:Nat→Prop} {v:Value} {bs:List Int} (h:RW w P v bs) (hb:Below w.heap.size w w'):RW w' P v bs:=⟨own_step h.1 hb,h.2⟩
theorem RW.mono {w:World} {P R:Nat→Prop} {v:Value} {bs:List Int} (h:RW w P v bs) (hR:∀ k,R k→P k):RW w R v bs:=⟨h.1,fun k hk hr=>h.2 k hk (hR k hr)⟩
theorem RW.more {w w':World} {P:Nat→Prop} {v:Value} {bs:List Int} (h:RW w P v bs) (hb:Below w.heap.size w w'):RW w' (More P w w') v bs:=by
 refine ⟨own_step h.1 hb,fun k hk hp=>?_⟩
 have:=own_lt h.1 hk
 rcases hp with hp | hp
 · exact h.2 k hk hp
 · omega
section
variable (P:Nat→Prop) (bs:List Int) (w:World)
variable (hP:∀ k,P k→k<w.heap.size) (hlen:bs.length≤1000000)
include hP hlen
end
end
section
open Go.RowKit
theorem KeepP.on {P:Nat→Prop} {w w':World} {b o:Nat} {v:Value} (h:KeepP P w w') (hb:P b) (hc:w.cell? ⟨b,o,none⟩=some v):w'.cell? ⟨b,o,none⟩=some v:=(h.cell hb o).trans hc
section
variable (op vs pts:Int) (hrs:List Rg) (HA:Option Addr) (hc:Nat) (gs:List Gr) (GA:Option Addr) (gc:Nat) (ps:List (Int × Int)) (PA:Option Addr) (pc:Nat) (qs:List ((Int × Int) × Int)) (QA:Option Addr) (qc:Nat) (w:World)
variable (hh:Sl w w.heap.size HA (rgCells hrs)) (hgc:Sl w w.heap.size GA (rgCells (gs.map (·.1)))) (hgs:GsOk w w.heap.size gs) (hps:Sl w w.heap.size PA (ptCs ps)) (hqs:Sl w w.heap.size QA (quCs qs)) (hqu:∀ q∈qs,U64 q.2)
include hh hgc hgs hps hqs hqu
end
end
end Go.Proofs.YtfljlmleiggmjaaGreatDoor
