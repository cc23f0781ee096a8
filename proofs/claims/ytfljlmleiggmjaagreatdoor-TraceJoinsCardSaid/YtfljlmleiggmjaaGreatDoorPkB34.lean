/- Edges Locate Valid Disc RefEvents16 RefEvents19 SortB Exchange RecRow -/
import Derived.Deep.CutBlock
import Derived.Deep.RegionHeld
import Derived.Deep.RegionHeld3
import Derived.Laws.CopyOwn
import Derived.Laws.Externs
import Derived.LoopIn
import Derived.LoopNIn
import Derived.OrdersHeld
import Derived.OrdersIn
import Derived.OwnWalkIn
import Derived.RangeFuncBound
import Derived.RangeFuncCalls
import Derived.RangeFuncLeaves
import Derived.RangeFuncNested
import Derived.Scope
import Derived.Shelf.Abstract
import Derived.Shelf.Bits.Mul64
import Derived.Shelf.RegionOpen
import Derived.Shelf.Spec.BitsCarry
import Derived.TacticsInMore
import Derived.Test.YtfljlmleiggmjaaGreatDoorPkB21
import Derived.Test.YtfljlmleiggmjaaGreatDoorPkB32
set_option maxRecDepth 1000000
set_option maxHeartbeats 8000000
namespace Go.Proofs.YtfljlmleiggmjaaGreatDoor
section
open Go.RowKit Go.Shelf
attribute [local go_sem] Oper.semAt_some
def edgeN (n:Nat):Nat:=if 3≤n∧n≤64 then n else 0
end
section
open Go.RowKit Go.Shelf
attribute [local go_sem] Oper.semAt_some
theorem KeepsFrom.of_below {B:Nat} {W W':World} (h:Below W.heap.size W W'):KeepsFrom B W W' :=
 ⟨h.size,fun k _ _ hk _=>(h.block k (Array.getElem?_eq_some_iff.1 hk).1).trans hk⟩
def sideE (s:Int) (ps:List Pt) (p:Pt) (i:Nat):Int:=s*(orientD (ptAt ps i) (ptAt ps ((i+1) % ps.length)) p).sign
def locF (s:Int) (ps:List Pt) (p:Pt) (pre:List Nat):Bool × Bool :=
 pre.foldl (fun st i=>((bif decide (i=0) then false else st.1) || decide (sideE s ps p i<0),st.2 || decide (sideE s ps p i=0))) (true,false)
def locV (ps:List Pt) (p:Pt):Int:=sgnM (locF (orientV ps) ps p (List.range (edgeN ps.length))).1 (locF (orientV ps) ps p (List.range (edgeN ps.length))).2
def locEv (pre:List Nat):List Ev:=pre.map fun (i:Nat)=>(5,(i:Int),0)
theorem MW.kept {w w':World} {P:Nat→Prop} (h:MW w) (hk:KeepP P w w') (h0:P 3):MW w':=⟨⟨(hk.cell h0 _).trans h.1.1,(hk.cell h0 _).trans h.1.2⟩,Nat.lt_of_lt_of_le h.2 hk.size⟩
end
section
open Go.RowKit Go.Shelf
attribute [local go_sem] Oper.semAt_some
section
variable {F:Fence} {n:Nat} {P:Program} {b:Frame} {a:Act} {k:List Item} {cs:List Frame} {w:World} {Q:Exit→Act→World→Prop}
theorem stepR_scope {c:Code}:step P (lone (b.atR a (.code (.scope c)::k)) cs w)=.next (lone (b.atR a (.code c::.inScope c::k)) cs w) :=
 step_lone_go (by simp [stepG,stepG.exec,Frame.atR])
theorem stepR_inScope {c:Code}:step P (lone (b.atR a (.inScope c::k)) cs w)=.next (lone (b.atR a k) cs w) :=
 step_lone_go (by simp [stepG,stepG.exec,Frame.atR])
theorem wpIn_scope_straight {c:Code} (h:c.wpIn F n P (Exit.noGoto Q) a w):(Code.scope c).wpIn F n P Q a w:=by
 intro b k cs hro hb hr
 have h0:(lone (b.atR a (.code (.scope c)::k)) cs w).fenced P F:=fenced_calm hb hr rfl
 obtain ⟨e,a₁,w₁,hq,harr⟩:=h b (.inScope c::k) cs hro hb hr
 cases e with
 | normal=>exact ⟨.normal,a₁,w₁,hq,.head h0 stepR_scope (StepsIn.trans harr (.one (fenced_calm hb hr rfl) stepR_inScope))⟩
 | exit id =>
   have hx:exitTo id (.inScope c::k)=exitTo id k:=by simp [exitTo]
   exact ⟨.exit id,a₁,w₁,hq,fun k' hk=>.head h0 stepR_scope (harr.1 k' (by rw [hx];exact hk)),
    fun hr' hk=>let ⟨k₁,h1,h2⟩:=harr.2 hr' (by rw [hx];exact hk);⟨k₁,h1,.head h0 stepR_scope h2⟩⟩
 | goto l=>exact hq.elim
 | ret=>exact ⟨_,a₁,w₁,hq,.of_steps (.one h0 stepR_scope) harr⟩
 | panic ch=>exact ⟨_,a₁,w₁,hq,.of_steps (.one h0 stepR_scope) harr⟩
 | outgrown=>exact ⟨_,a₁,w₁,hq,.of_steps (.one h0 stepR_scope) harr⟩
end
def okE (s:Int) (ps:List Pt) (i j:Nat):Bool :=
 decide (j=i) || decide (j=(i+1) % ps.length) || decide ((orientD (ptAt ps i) (ptAt ps ((i+1) % ps.length)) (ptAt ps j)).sign=s)
def innerF (s:Int) (ps:List Pt) (i:Nat) (v:Bool) (k:Nat):Bool:=(List.range k).foldl (fun v j=>v && okE s ps i j) v
def vF (s:Int) (ps:List Pt) (pre:List Nat):Bool:=pre.foldl (fun v i=>innerF s ps i v ps.length) (!decide (s=0))
def validV (ps:List Pt):Bool:=vF (orientV ps) ps (List.range (edgeN ps.length))
def evI (x nx k:Nat):List Ev:=((List.range k).filter fun j=>!(decide (j=x) || decide (j=nx))).map fun (j:Nat)=>(4,(x:Int),(j:Int))
theorem evI_same {x nx k:Nat} (h:k=x∨k=nx):evI x nx (k+1)=evI x nx k:=by
 unfold evI
 rw [List.range_succ,List.filter_append]
 have e:(!(decide (k=x) || decide (k=nx)))=false:=by rcases h with h | h <;> simp [h]
 simp [List.filter,e]
theorem evI_next {x nx k:Nat} (h:k≠x) (h':k≠nx):evI x nx (k+1)=evI x nx k++[(4,(x:Int),(k:Int))]:=by
 unfold evI
 rw [List.range_succ,List.filter_append]
 simp [List.filter,h,h']
def vEv (n:Nat) (pre:List Nat):List Ev:=pre.flatMap fun x=>evI x ((x+1) % n) n
end
section
open Go.RowKit Go.Shelf
def discOk (ps:List Pt):Bool:=decide (ps.length=3) && !decide ((orientD (ptAt ps 0) (ptAt ps 1) (ptAt ps 2)).sign=0)
def discL (ps:List Pt) (p:Pt):Int:=if ps.length=3 then (circleD (ptAt ps 0) (ptAt ps 1) (ptAt ps 2) p).sign*(orientD (ptAt ps 0) (ptAt ps 1) (ptAt ps 2)).sign else -1
section
variable (P:Nat→Prop) (t:Option (Nat × Nat)) (es:List Ev) (ps:List Pt) (hps:PsJ ps) (A:Option Addr) (c:Nat) (w:World) (hP:∀ k,P k→k<w.heap.size) (hg0:P 3) (hs:SlP w P A (ptCs ps)) (hw:MW w) (ht:Tp w P t es) (hl:es.length≤900000)
include hps hP hg0 hs hw ht hl
end
end
section
open Go.RowKit
def hvEv1 (v:Int):List Ev:=if v=0 then [(4,0,2)] else vEv v.toNat (List.range (edgeN v.toNat))
def hvEv:Nat→List Rg→List Ev
 | _,[]=>[]
 | i,r::rs=>(7,(i:Int),0)::(hvEv1 r.v++hvEv (i+1) rs)
theorem hvEv_snoc:∀ (i:Nat) (l:List Rg) (r:Rg),hvEv i (l++[r])=hvEv i l++((7,((i+l.length:Nat):Int),0)::hvEv1 r.v)
 | i,[],r=>by simp [hvEv]
 | i,x::l,r=>by
   have h:=hvEv_snoc (i+1) l r
   have e:i+1+l.length=i+(x::l).length:=by simp;omega
   rw [List.cons_append,hvEv,h,hvEv,e]
   simp
def hmEv1 (v:Int):List Ev:=if v=0 then [(6,0,0)] else locEv (List.range (edgeN v.toNat))
def hmEv:Nat→List Rg→List Ev
 | _,[]=>[]
 | i,r::rs=>(7,(i:Int),1)::(hmEv1 r.v++hmEv (i+1) rs)
theorem hmEv_snoc:∀ (i:Nat) (l:List Rg) (r:Rg),hmEv i (l++[r])=hmEv i l++((7,((i+l.length:Nat):Int),1)::hmEv1 r.v)
 | i,[],r=>by simp [hmEv]
 | i,x::l,r=>by
   have h:=hmEv_snoc (i+1) l r
   have e:i+1+l.length=i+(x::l).length:=by simp;omega
   rw [List.cons_append,hmEv,h,hmEv,e]
   simp
end
section
open Go.RowKit Go.Shelf
def evH (op vs:Int) (hrs:List Rg):List Ev :=
 if op=3 then vEv vs.toNat (List.range (edgeN vs.toNat))++locEv (List.range (edgeN vs.toNat)) else if op=4 then hvEv 0 hrs++hmEv 0 hrs else []
end
section
open Go.RowKit
abbrev LeS (w0:World) (s:Nat) (x1 x2 y1 y2:Int) (wk:World):Prop :=
 Below s w0 wk∧(wk.cell? ⟨s,0,none⟩=some (.int .u64 x1)∧wk.cell? ⟨s,1,none⟩=some (.int .u64 x2)∧wk.cell? ⟨s+1,0,none⟩=some (.int .u64 y1)∧wk.cell? ⟨s+1,1,none⟩=some (.int .u64 y2)) ∧
  wk.frozen? ⟨s,0,none⟩=false∧wk.frozen? ⟨s,1,none⟩=false∧wk.frozen? ⟨s+1,0,none⟩=false∧wk.frozen? ⟨s+1,1,none⟩=false
theorem LeS.keep {w0:World} {s:Nat} {x1 x2 y1 y2:Int} {wk w':World} (h:LeS w0 s x1 x2 y1 y2 wk) (hb:Below wk.heap.size wk w'):LeS w0 s x1 x2 y1 y2 w':=by
 have on:∀ {b o:Nat} {v:Value},wk.cell? ⟨b,o,none⟩=some v→w'.cell? ⟨b,o,none⟩=some v:=fun h=>(hb.cell (p:=⟨_,_,none⟩) (cell_lt h)).trans h
 obtain ⟨h0,⟨h1,h2,h3,h4⟩,f1,f2,f3,f4⟩:=h
 have l1:=cell_lt h1
 have l2:=cell_lt h3
 exact ⟨h0.trans (hb.mono (Nat.le_of_lt l1)),⟨on h1,on h2,on h3,on h4⟩,(hb.frozen (p:=⟨_,_,none⟩) l1).trans f1,(hb.frozen (p:=⟨_,_,none⟩) l1).trans f2,(hb.frozen (p:=⟨_,_,none⟩) l2).trans f3,(hb.frozen (p:=⟨_,_,none⟩) l2).trans f4⟩
abbrev LeT (w0:World) (s:Nat) (x1 x2 y1 y2:Int) (wk:World):Prop :=
 Below s w0 wk∧wk.cell? ⟨s,0,none⟩=some (.int .u64 x1)∧wk.cell? ⟨s,1,none⟩=some (.int .u64 x2)∧wk.cell? ⟨s+1,0,none⟩=some (.int .u64 y1)∧wk.cell? ⟨s+1,1,none⟩=some (.int .u64 y2)
theorem LeT.keep {w0:World} {s:Nat} {x1 x2 y1 y2:Int} {wk w':World} (h:LeT w0 s x1 x2 y1 y2 wk) (hb:Below wk.heap.size wk w'):LeT w0 s x1 x2 y1 y2 w':=by
 have on:∀ {b o:Nat} {v:Value},wk.cell? ⟨b,o,none⟩=some v→w'.cell? ⟨b,o,none⟩=some v:=fun h=>(hb.cell (p:=⟨_,_,none⟩) (cell_lt h)).trans h
 obtain ⟨h0,h1,h2,h3,h4⟩:=h
 exact ⟨h0.trans (hb.mono (Nat.le_of_lt (cell_lt h1))),on h1,on h2,on h3,on h4⟩
end
section
open Go.RowKit
def ExP (w:World) (g:Nat) (t:TypeId) (cs:Array Value) (o1 o2:Nat) (u1 u2:Value) (w':World):Prop :=
 ∃ cs':Array Value,Blk w' g t cs'∧cs'.size=cs.size∧cs'[o1]?=some u1∧cs'[o2]?=some u2∧(∀ j,j≠o1→j≠o2→cs'[j]?=cs[j]?)∧w.grownBy w' (some g)
theorem grown_set (w:World) (g o:Nat) (u:Value):w.grownBy (w.setCell ⟨g,o,none⟩ u) (some g) :=
 ⟨rfl,rfl,rfl,Nat.le_of_eq (World.size_setCell ..).symm,fun k _ hk=>Below.heap_setCell w ⟨g,o,none⟩ u k (fun e=>hk (by rw [e]))⟩
theorem grown_drew1 {a b:World} {row:Option Nat} (h:a.grownBy b row):a.grownBy b.drew row:=⟨h.os,h.tape,h.output,h.size,h.block⟩
theorem grown_below {a b:World} {g:Nat} (h:Below a.heap.size a b):a.grownBy b (some g):=⟨h.os,h.tape,h.output,h.size,fun i hi _=>h.block i hi⟩
theorem ExP.ab {w:World} {g:Nat} {t:TypeId} {cs:Array Value} {o1 o2:Nat} (h:Blk w g t cs) (h1:o1<cs.size) (h2:o2<cs.size) (hne:o1≠o2) (u1 u2:Value):ExP w g t cs o1 o2 u1 u2 ((w.setCell ⟨g,o1,none⟩ u1).setCell ⟨g,o2,none⟩ u2).drew:=by
 refine ⟨_,((h.set o1 u1).set o2 u2).drew,by simp,?_,?_,fun j n1 n2=>?_,?_⟩
 · rw [Array.getElem?_setIfInBounds,if_neg (Ne.symm hne),Array.getElem?_setIfInBounds,if_pos rfl,if_pos h1]
 · rw [Array.getElem?_setIfInBounds,if_pos rfl,if_pos (by simpa using h2)]
 · rw [Array.getElem?_setIfInBounds,if_neg (Ne.symm n2),Array.getElem?_setIfInBounds,if_neg (Ne.symm n1)]
 · exact grown_drew1 ((grown_set _ _ _ _).trans (grown_set _ _ _ _))
theorem ExP.ba {w:World} {g:Nat} {t:TypeId} {cs:Array Value} {o1 o2:Nat} (h:Blk w g t cs) (h1:o1<cs.size) (h2:o2<cs.size) (hne:o1≠o2) (u1 u2:Value):ExP w g t cs o1 o2 u1 u2 ((w.setCell ⟨g,o2,none⟩ u2).setCell ⟨g,o1,none⟩ u1).drew:=by
 obtain ⟨cs',a1,a2,a3,a4,a5,a6⟩:=ExP.ab h h2 h1 (Ne.symm hne) u2 u1
 exact ⟨cs',a1,a2,a4,a3,fun j n1 n2=>a5 j n2 n1,a6⟩
def ExQ (w:World) (g:Nat) (t:TypeId) (cs:Array Value) (o1 o2:Nat) (l h:Int × Int) (w':World):Prop :=
 ∃ cs':Array Value,Blk w' g t cs'∧cs'.size=cs.size∧cs'[o1]?=some (.int .u64 l.1)∧cs'[o1+1]?=some (.int .u64 l.2) ∧
   cs'[o2]?=some (.int .u64 h.1)∧cs'[o2+1]?=some (.int .u64 h.2)∧(∀ j,j≠o1→j≠o1+1→j≠o2→j≠o2+1→cs'[j]?=cs[j]?)∧w.grownBy w' (some g)
theorem ExQ.of {w wc wd wx:World} {g:Nat} {t:TypeId} {cs cs1:Array Value} {o1 o2:Nat} {l h:Int × Int} (hne:o1+1<o2∨o2+1<o1) (hb:Below w.heap.size w wc) (hg:wc.grownBy wd (some g)) (hs:cs1.size=cs.size)
 (e1:cs1[o1]?=some (.int .u64 l.1)) (e2:cs1[o2]?=some (.int .u64 h.1)) (e3:∀ j,j≠o1→j≠o2→cs1[j]?=cs[j]?) (hx:ExP wd g t cs1 (o1+1) (o2+1) (.int .u64 l.2) (.int .u64 h.2) wx):ExQ w g t cs o1 o2 l h wx:=by
 obtain ⟨cs2,B,s2,a1,a2,a3,hg2⟩:=hx
 exact ⟨cs2,B,s2.trans hs,(a3 _ (by omega) (by omega)).trans e1,a1,(a3 _ (by omega) (by omega)).trans e2,a2,fun j n1 n2 n3 n4=>(a3 j n2 n4).trans (e3 j n1 n3),(grown_below hb).trans (hg.trans hg2)⟩
section
variable (g:Nat) (t:TypeId) (cs:Array Value) (o1 o2:Nat) (x y:Int × Int) (hx:Cln x) (hy:Cln y) (w:World)
variable (hb:Blk w g t cs) (c1:cs[o1]?=some (.int .u64 x.1)) (c2:cs[o1+1]?=some (.int .u64 x.2)) (c3:cs[o2]?=some (.int .u64 y.1)) (c4:cs[o2+1]?=some (.int .u64 y.2)) (hne:o1+1<o2∨o2+1<o1)
include hx hy hb c1 c2 c3 c4 hne
end
end
section
open Go.RowKit
theorem Blk.same {w:World} {g:Nat} {t:TypeId} {cs:Array Value} (h:Blk w g t cs) {i:Nat} {u:Value} (hi:cs[i]?=some u):Blk (w.setCell ⟨g,i,none⟩ u) g t cs:=by
 have h1:=h.set i u
 have e:cs.setIfInBounds i u=cs:=by
  refine Array.ext_getElem? fun j=>?_
  rw [Array.getElem?_setIfInBounds]
  by_cases hj:i=j
  · subst hj;rw [if_pos rfl,if_pos (Array.getElem?_eq_some_iff.1 hi).1,hi]
  · rw [if_neg hj]
 rw [e] at h1
 exact h1
end
end Go.Proofs.YtfljlmleiggmjaaGreatDoor
