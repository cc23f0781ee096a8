/- Limb3 Diff2 Orient Circle2 -/
import Derived.Deep.AppendLies
import Derived.Deep.DeepCutAuto
import Derived.Deep.RegionHeld3
import Derived.Deep.RegionLaw
import Derived.Laws.Externs
import Derived.Laws.MakeOwn
import Derived.Lib.SliceRun
import Derived.OwnWalk
import Derived.Shelf.Bits.Mul64
import Derived.Shelf.Spec.BitsCarry
import Derived.Test.YtfljlmleiggmjaaGreatDoorPkB00
import Derived.Test.YtfljlmleiggmjaaGreatDoorPkB13
set_option maxRecDepth 1000000
set_option maxHeartbeats 8000000
namespace Go.Proofs.YtfljlmleiggmjaaGreatDoor
section
open Go.RowKit
def uCs (l:List Int):List Value:=l.map (Value.int .u64)
theorem uCs_length (l:List Int):(uCs l).length=l.length:=by simp [uCs]
theorem Sl.u {w:World} {B:Nat} {A:Option Addr} {l:List Int} (h:Sl w B A (uCs l)) (hn:0<l.length) :
 ∃ b off,A=some ⟨b,off,none⟩∧b<B∧∀ j x,l[j]?=some x→w.cell? ⟨b,off+j,none⟩=some (.int .u64 x):=by
 obtain ⟨b,off,hA,hB,hc⟩:=h.open_ (by rw [uCs_length];exact hn)
 exact ⟨b,off,hA,hB,fun j x hx=>hc j _ (by simp [uCs,hx])⟩
def GaveL (l:List Int) (w:World) (e:Ending) (w':World):Prop :=
 ∃ A c,e=.returned (.slice A l.length c)∧Below w.heap.size w w'∧Sl w' w'.heap.size A (uCs l)
def slCs (ls:List (Option Addr × Nat × Nat)):List Value:=ls.map fun x=>.slice x.1 x.2.1 x.2.2
theorem Sl.sl {w:World} {B:Nat} {A:Option Addr} {ls:List (Option Addr × Nat × Nat)} (h:Sl w B A (slCs ls)) (hn:0<ls.length) :
 ∃ b off,A=some ⟨b,off,none⟩∧b<B∧∀ j x,ls[j]?=some x→w.cell? ⟨b,off+j,none⟩=some (.slice x.1 x.2.1 x.2.2):=by
 obtain ⟨b,off,hA,hB,hc⟩:=h.open_ (by simpa [slCs] using hn)
 exact ⟨b,off,hA,hB,fun j x hx=>hc j _ (by simp [slCs,hx])⟩
theorem Sl.pre {w:World} {B:Nat} {A:Option Addr} {xs:List Value} (h:Sl w B A xs) (n:Nat):Sl w B A (xs.take n):=by
 rcases h with h | ⟨b,off,hA,hlt,hc⟩
 · left;rw [h];simp
 · refine .inr ⟨b,off,hA,hlt,fun j u hu=>hc j u ?_⟩
   rw [List.getElem?_take] at hu
   split at hu
   · exact hu
   · cases hu
end
section
open Go.RowKit
end
section
open Go.RowKit
end
section
open Go.RowKit
def GaveN (n:Nat) (v:Int) (w:World) (e:Ending) (w':World):Prop :=
 ∃ A c,e=.returned (.slice A n c)∧Below w.heap.size w w'∧Sl w' w'.heap.size A (uCs (lims n v))
theorem GaveL.n {n:Nat} {v:Int} {w w':World} {e:Ending} (h:GaveL (lims n v) w e w'):GaveN n v w e w':=by
 obtain ⟨A,c,h1,h2,h3⟩:=h
 exact ⟨A,c,by rw [h1,lims_length],h2,h3⟩
def J64 (x:Int):Prop:=-9223372036854775808≤x∧x<9223372036854775808
def Held6 (w0 w':World) (b1 b2 g:Nat) (v1 v2 v3 v4:Value):Prop :=
 Below w0.heap.size w0 w'∧w'.cell? ⟨b1,0,none⟩=some v1∧w'.cell? ⟨b1,1,none⟩=some v2∧w'.cell? ⟨b2,0,none⟩=some v3∧w'.cell? ⟨b2,1,none⟩=some v4∧w'.cell? ⟨g,0,none⟩=some (.slice none 0 0)∧w'.cell? ⟨g,1,none⟩=some (.slice none 0 0)∧w'.frozen? ⟨g,0,none⟩=false∧w'.frozen? ⟨g,1,none⟩=false
theorem Held6.keep {w0 wk w':World} {b1 b2 g:Nat} {v1 v2 v3 v4:Value} (h:Held6 w0 wk b1 b2 g v1 v2 v3 v4) (hb:Below wk.heap.size wk w'):Held6 w0 w' b1 b2 g v1 v2 v3 v4:=by
 have on:∀ {b o:Nat} {v:Value},wk.cell? ⟨b,o,none⟩=some v→w'.cell? ⟨b,o,none⟩=some v:=fun h=>(hb.cell (p:=⟨_,_,none⟩) (cell_lt h)).trans h
 obtain ⟨h0,h1,h2,h3,h4,h5,h6,h7,h8⟩:=h
 exact ⟨bl_step h0 hb,on h1,on h2,on h3,on h4,on h5,on h6,(hb.frozen (p:=⟨g,0,none⟩) (cell_lt h5)).trans h7,(hb.frozen (p:=⟨g,1,none⟩) (cell_lt h6)).trans h8⟩
end
section
open Go.RowKit
end
section
open Go.RowKit
abbrev Pt:=Int × Int
def PJ (p:Pt):Prop:=J64 p.1∧J64 p.2
def crossD (ux uy vx vy:Int):Int:=ux*vy - uy*vx
def orientD (a b c:Pt):Int:=crossD (b.1 - a.1) (b.2 - a.2) (c.1 - a.1) (c.2 - a.2)
theorem w2:(18446744073709551616:Int) ^ 2=340282366920938463463374607431768211456:=by decide +kernel
def Held3P (w0:World) (b1 b2 b3:Nat) (x1 y1 x2 y2 x3 y3:Int) (w':World):Prop :=
 Below w0.heap.size w0 w'∧w'.cell? ⟨b1,0,none⟩=some (.int .i64 x1)∧w'.cell? ⟨b1,1,none⟩=some (.int .i64 y1)∧w'.cell? ⟨b2,0,none⟩=some (.int .i64 x2)∧w'.cell? ⟨b2,1,none⟩=some (.int .i64 y2)∧w'.cell? ⟨b3,0,none⟩=some (.int .i64 x3)∧w'.cell? ⟨b3,1,none⟩=some (.int .i64 y3)
theorem Held3P.keep {w0 wk w':World} {b1 b2 b3:Nat} {x1 y1 x2 y2 x3 y3:Int} (h:Held3P w0 b1 b2 b3 x1 y1 x2 y2 x3 y3 wk) (hb:Below wk.heap.size wk w'):Held3P w0 b1 b2 b3 x1 y1 x2 y2 x3 y3 w':=by
 have on:∀ {b o:Nat} {v:Value},wk.cell? ⟨b,o,none⟩=some v→w'.cell? ⟨b,o,none⟩=some v:=fun h=>(hb.cell (p:=⟨_,_,none⟩) (cell_lt h)).trans h
 obtain ⟨h0,h1,h2,h3,h4,h5,h6⟩:=h
 exact ⟨bl_step h0 hb,on h1,on h2,on h3,on h4,on h5,on h6⟩
theorem MWords.below {w w':World} {B:Nat} (h:MWords w) (hb:Below B w w') (hg:3<B):MWords w' :=
 ⟨(hb.cell (p:=⟨3,0,none⟩) hg).trans h.1,(hb.cell (p:=⟨3,1,none⟩) hg).trans h.2⟩
def MW (w:World):Prop:=MWords w∧3<w.heap.size
theorem MW.step {w w':World} (h:MW w) (hb:Below w.heap.size w w'):MW w':=⟨h.1.below hb h.2,Nat.lt_of_lt_of_le h.2 hb.size⟩
end
section
open Go.RowKit
abbrev Held4P (w0:World) (b1 b2 b3 b4:Nat) (x1 y1 x2 y2 x3 y3 x4 y4:Int) (w':World):Prop :=
 Below w0.heap.size w0 w'∧w'.cell? ⟨b1,0,none⟩=some (.int .i64 x1)∧w'.cell? ⟨b1,1,none⟩=some (.int .i64 y1)∧w'.cell? ⟨b2,0,none⟩=some (.int .i64 x2)∧w'.cell? ⟨b2,1,none⟩=some (.int .i64 y2)∧w'.cell? ⟨b3,0,none⟩=some (.int .i64 x3)∧w'.cell? ⟨b3,1,none⟩=some (.int .i64 y3)∧w'.cell? ⟨b4,0,none⟩=some (.int .i64 x4)∧w'.cell? ⟨b4,1,none⟩=some (.int .i64 y4)
theorem Held4P.keep {w0 wk w':World} {b1 b2 b3 b4:Nat} {x1 y1 x2 y2 x3 y3 x4 y4:Int} (h:Held4P w0 b1 b2 b3 b4 x1 y1 x2 y2 x3 y3 x4 y4 wk) (hb:Below wk.heap.size wk w'):Held4P w0 b1 b2 b3 b4 x1 y1 x2 y2 x3 y3 x4 y4 w':=by
 have on:∀ {b o:Nat} {v:Value},wk.cell? ⟨b,o,none⟩=some v→w'.cell? ⟨b,o,none⟩=some v:=fun h=>(hb.cell (p:=⟨_,_,none⟩) (cell_lt h)).trans h
 obtain ⟨h0,h1,h2,h3,h4,h5,h6,h7,h8⟩:=h
 exact ⟨bl_step h0 hb,on h1,on h2,on h3,on h4,on h5,on h6,on h7,on h8⟩
theorem Held4P.set {w0 wk:World} {b1 b2 b3 b4:Nat} {x1 y1 x2 y2 x3 y3 x4 y4:Int} (hl:b1<w0.heap.size∧b2<w0.heap.size∧b3<w0.heap.size∧b4<w0.heap.size) (h:Held4P w0 b1 b2 b3 b4 x1 y1 x2 y2 x3 y3 x4 y4 wk) {K:Nat} (hK:w0.heap.size≤K) (o:Nat) (u:Value) :
 Held4P w0 b1 b2 b3 b4 x1 y1 x2 y2 x3 y3 x4 y4 (wk.setCell ⟨K,o,none⟩ u):=by
 have on:∀ {b o':Nat} {v:Value},b<w0.heap.size→wk.cell? ⟨b,o',none⟩=some v→(wk.setCell ⟨K,o,none⟩ u).cell? ⟨b,o',none⟩=some v:=fun hb h=>by
  rw [World.cell?_of_block (Below.heap_setCell wk ⟨K,o,none⟩ u _ (by dsimp only;omega))];exact h
 obtain ⟨h0,h1,h2,h3,h4,h5,h6,h7,h8⟩:=h
 exact ⟨h0.setCell hK u,on hl.1 h1,on hl.1 h2,on hl.2.1 h3,on hl.2.1 h4,on hl.2.2.1 h5,on hl.2.2.1 h6,on hl.2.2.2 h7,on hl.2.2.2 h8⟩
def normD (x y:Int):Int:=x*x+y*y
def circleD (a b c d:Pt):Int :=
 0+normD (a.1 - d.1) (a.2 - d.2)*crossD (b.1 - d.1) (b.2 - d.2) (c.1 - d.1) (c.2 - d.2)
  + normD (b.1 - d.1) (b.2 - d.2)*crossD (c.1 - d.1) (c.2 - d.2) (a.1 - d.1) (a.2 - d.2)
  + normD (c.1 - d.1) (c.2 - d.2)*crossD (a.1 - d.1) (a.2 - d.2) (b.1 - d.1) (b.2 - d.2)
def Held6C (wx:World) (K:Nat) (v0 v1 v2 v3 v4 v5:Value) (w':World):Prop :=
 Below wx.heap.size wx w'∧w'.cell? ⟨K,0,none⟩=some v0∧w'.cell? ⟨K,1,none⟩=some v1∧w'.cell? ⟨K,2,none⟩=some v2∧w'.cell? ⟨K,3,none⟩=some v3∧w'.cell? ⟨K,4,none⟩=some v4∧w'.cell? ⟨K,5,none⟩=some v5
theorem Held6C.keep {wx wk w':World} {K:Nat} {v0 v1 v2 v3 v4 v5:Value} (h:Held6C wx K v0 v1 v2 v3 v4 v5 wk) (hb:Below wk.heap.size wk w'):Held6C wx K v0 v1 v2 v3 v4 v5 w':=by
 have on:∀ {b o:Nat} {v:Value},wk.cell? ⟨b,o,none⟩=some v→w'.cell? ⟨b,o,none⟩=some v:=fun h=>(hb.cell (p:=⟨_,_,none⟩) (cell_lt h)).trans h
 obtain ⟨h0,h1,h2,h3,h4,h5,h6⟩:=h
 exact ⟨bl_step h0 hb,on h1,on h2,on h3,on h4,on h5,on h6⟩
theorem Sl.step {w w':World} {A:Option Addr} {xs:List Value} (h:Sl w w.heap.size A xs) (hb:Below w.heap.size w w'):Sl w' w'.heap.size A xs:=(h.below hb).more hb.size
end
section
open Go.RowKit
end
end Go.Proofs.YtfljlmleiggmjaaGreatDoor
