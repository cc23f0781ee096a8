/- FenceValid FenceMember Ops OpFns -/
import Derived.BigQuiet
import Derived.Deep.QuietTactic
import Derived.Deep.RegionHeld
import Derived.Laws.Externs
import Derived.Maps.OwnSet
import Derived.OrdersHeld
import Derived.OrdersIn
import Derived.OwnWalkIn
import Derived.Shelf.Bits.Mul64
import Derived.Shelf.Spec.BitsCarry
import Derived.Test.YtfljlmleiggmjaaGreatDoorPkB09
import Derived.Test.YtfljlmleiggmjaaGreatDoorPkB34
set_option maxRecDepth 1000000
set_option maxHeartbeats 8000000
namespace Go.Proofs.YtfljlmleiggmjaaGreatDoor
section
open Go.RowKit Go.Shelf
def rgOk (v:Int) (ps:List Pt):Bool:=if v=0 then discOk ps else validV ps
def rgL (v:Int) (ps:List Pt) (p:Pt):Int:=if v=0 then discL ps p else locV ps p
section
variable (P:Nat→Prop) (t:Option (Nat × Nat)) (es:List Ev) (d:Bool) (v:Int) (ps:List Pt) (hps:PsJ ps) (hn:ps.length≤10000) (A:Option Addr) (c:Nat) (w:World) (hP:∀ k,P k→k<w.heap.size) (hg0:P 3) (hs:SlP w P A (ptCs ps)) (hw:MW w) (ht:Tp w P t es) (hl:es.length≤900000)
include hps hn hP hg0 hs hw ht hl
end
def GsP (w:World) (P:Nat→Prop) (gs:List Gr):Prop:=∀ g∈gs,g.1.n=g.2.length∧SlP w P g.1.A (ptCs g.2)∧PsJ g.2∧g.2.length≤10000
theorem GsP.kept {w w':World} {P:Nat→Prop} {gs:List Gr} (h:GsP w P gs) (hk:KeepP P w w'):GsP w' P gs:=fun g hg=>⟨(h g hg).1,(h g hg).2.1.kept hk,(h g hg).2.2⟩
def fvOk (gs:List Gr):Bool:=gs.foldl (fun b g=>b && rgOk g.1.v g.2) true
def fenceOk (gs:List Gr):Bool:=decide (fcheck (gs.map (·.1))=0) && fvOk gs
end
section
open Go.RowKit Go.Shelf
def memF (p:Pt) (gs:List Gr):Bool × Bool:=gs.foldl (fun s g=>bif g.1.d then (s.1,s.2 || !decide (rgL g.1.v g.2 p<0)) else (s.1 || !decide (rgL g.1.v g.2 p<0),s.2)) (false,false)
def memOk (gs:List Gr) (p:Pt):Bool:=decide (fcheck (gs.map (·.1))=0) && ((memF p gs).1 && !(memF p gs).2)
end
section
open Go.RowKit Go.Shelf Go.Maps
def opR (v:Value):Option (DataW Unit × List MemPlace) :=
 match v with
 | .agg cs=>match cs.toList with
   | [.func (.func n) f c]=>if f.size=0∧c.size=0 then some (.lit (.int .i64 n),[]) else some (.lit (.int .i64 0),[])
   | _=>some (.lit (.int .i64 0),[])
 | _=>some (.lit (.int .i64 0),[])
def opsD:DataW Unit:=(((DataW.map []).put (.int .i64 1) (.lit (.int .i64 186))).put (.int .i64 2) (.lit (.int .i64 188))).put (.int .i64 3) (.lit (.int .i64 190)) |>.put (.int .i64 4) (.lit (.int .i64 192))
def Ops (w:World) (b:Nat):Prop:=w.ownsMap Tryz.prog 3 opR b 4 opsD
theorem Ops.step {w w':World} {b:Nat} (h:Ops w b) (hb:Below w.heap.size w w'):Ops w' b:=World.ownsMap.kept h (below_grown hb) (by simp)
end
section
open Go.RowKit Go.Shelf
def PtC (w:World) (b off:Nat) (ps:List Pt) (j:Nat):Prop:=w.cell? ⟨b,off+j*2,none⟩=some (.int .i64 (ptAt ps j).1)∧w.cell? ⟨b,off+j*2+1,none⟩=some (.int .i64 (ptAt ps j).2)
theorem PtC.step {w w':World} {b off:Nat} {ps:List Pt} {j:Nat} (h:PtC w b off ps j) (hb:Below w.heap.size w w'):PtC w' b off ps j :=
 ⟨(hb.cell (p:=⟨b,off+j*2,none⟩) (cell_lt h.1)).trans h.1,(hb.cell (p:=⟨b,off+j*2+1,none⟩) (cell_lt h.2)).trans h.2⟩
section
variable (P:Nat→Prop) (t:Option (Nat × Nat)) (es:List Ev) (op vs pts:Int) (HA:Option Addr) (hn hc:Nat) (gs:List Gr) (GA:Option Addr) (gc:Nat) (ps:List Pt) (PA:Option Addr) (pc:Nat) (QA:Option Addr) (qn qc:Nat) (w:World)
variable (hP:∀ k,P k→k<w.heap.size) (hg0:P 3) (hw:MW w) (ht:Tp w P t es) (hl:es.length≤600000) (hps:PsJ ps) (hs:SlP w P PA (ptCs ps))
include hP hg0 hw ht hl hps hs
end
theorem PtC.kept {w w':World} {P:Nat→Prop} {b off:Nat} {ps:List Pt} {j:Nat} (h:PtC w b off ps j) (hk:KeepP P w w') (hb:P b):PtC w' b off ps j:=⟨(hk.cell hb _).trans h.1,(hk.cell hb _).trans h.2⟩
section
variable (P:Nat→Prop) (t:Option (Nat × Nat)) (es:List Ev) (op vs pts:Int) (HA:Option Addr) (hn hc:Nat) (gs:List Gr) (GA:Option Addr) (gc:Nat) (ps:List Pt) (PA:Option Addr) (pc:Nat) (QA:Option Addr) (qn qc:Nat) (w:World)
variable (hP:∀ k,P k→k<w.heap.size) (hg0:P 3) (hw:MW w) (ht:Tp w P t es) (hl:es.length≤600000) (hps:PsJ ps) (hs:SlP w P PA (ptCs ps))
include hP hg0 hw ht hl hps hs
end
end
end Go.Proofs.YtfljlmleiggmjaaGreatDoor
