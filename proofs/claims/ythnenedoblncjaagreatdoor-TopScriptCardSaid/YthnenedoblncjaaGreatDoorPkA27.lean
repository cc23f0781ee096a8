/- Circle2 HeldIn -/
import Derived.Deep.DeepCutAuto
import Derived.Deep.RegionHeld
import Derived.OrdersHeld
import Derived.OrdersIn
import Derived.OwnWalkIn
import Derived.Test.YthnenedoblncjaaGreatDoorPkA26
set_option maxRecDepth 1000000
set_option maxHeartbeats 8000000
namespace Go.Proofs.YthnenedoblncjaaGreatDoor
open Go.Proofs.Tryz
theorem ZW{α:Type}:(∀ (l:List α) (i:Nat) (h:i<l.toArray.size),l.toArray[i]=l[i]'(by simpa using h))/\(∀ (a:α) (l:List α) (i:Nat) (h:i+1<(a::l).length),(a::l)[i+1]=l[i]'(Nat.lt_of_succ_lt_succ h))/\(∀ (a:α) (l:List α) (h:0<(a::l).length),(a::l)[0]=a)/\(∀ (l:List α) (i:Nat) (a:α),l.toArray.setIfInBounds i a=(l.set i a).toArray)/\(∀ (x a:α) (l:List α),(x::l).set 0 a=a::l)/\(∀ (x a:α) (l:List α) (i:Nat),(x::l).set (i+1) a=x::l.set i a):=⟨fun _ _ _=>by simp,fun _ _ _ _=>rfl,fun _ _ _=>rfl,fun _ _ _=>by simp,fun _ _ _=>rfl,fun _ _ _ _=>rfl⟩
section
open Go.RowKit
theorem vD(x y:Int)(fx:Fits 2 x)(fy:Fits 2 y)(A1 A2:Option Addr)(c1 c2:Nat)(w:World)(h1:Sl w w.heap.size A1 (YU (ZN 2 x)))(h2:Sl w w.heap.size A2 (YU (ZN 2 y))):
 Calls prog 252 #[.agg #[.slice A1 2 c1,.slice A2 2 c2]] w (YC 4 (x*x+y*y) w):=by
 obtain ⟨w0,hw0⟩:=eE (w.alloc (.cells #[.slice A1 2 c1,.slice A2 2 c2] 284));have hb0:=bE hw0;have hz:=hb0.size;have HP:=hide (lV x y x y fx fy fx fy A1 A2 A1 A2 c1 c2 c1 c2 w0 ((h1.below hb0).more hz) ((h2.below hb0).more hz) ((h1.below hb0).more hz) ((h2.below hb0).more hz));clear h1 h2 fx fy;go_enter func252,ntmps252;go_wp2_with fail;rw [<- hw0];have HW0:=hide hw0;clear hw0;refine HP.out.mono ?_;rintro e w1 ⟨A5,c5,rfl,hb1,hs⟩;go_wp2;go_ret;exact ⟨A5,c5,rfl,Z9 hb0 hb1,hs⟩
theorem Ya{wk w':World}{cs:Array Value}{t:TypeId}(hb:Below (wk.alloc (.cells cs t)).heap.size (wk.alloc (.cells cs t)) w'):Z6 w' wk.heap.size t cs:=(Z6.new wk t cs).step hb
theorem Xz{wk w':World}{cs:Array Value}{t:TypeId}(hb:Below (wk.alloc (.cells cs t)).drew.heap.size (wk.alloc (.cells cs t)).drew w'):Z6 w' wk.heap.size t cs:=(show Z6 (wk.alloc (.cells cs t)).drew wk.heap.size t cs from Z6.new wk t cs).step hb
abbrev Zq(w0:World)(b1 b2 b3 b4:Nat)(x1 y1 x2 y2 x3 y3 x4 y4:Int)(w':World):Prop :=
 Below w0.heap.size w0 w'/\w'.cell? ⟨b1,0,none⟩=some (.int .i64 x1)/\w'.cell? ⟨b1,1,none⟩=some (.int .i64 y1)/\w'.cell? ⟨b2,0,none⟩=some (.int .i64 x2)/\w'.cell? ⟨b2,1,none⟩=some (.int .i64 y2)/\w'.cell? ⟨b3,0,none⟩=some (.int .i64 x3)/\w'.cell? ⟨b3,1,none⟩=some (.int .i64 y3)/\w'.cell? ⟨b4,0,none⟩=some (.int .i64 x4)/\w'.cell? ⟨b4,1,none⟩=some (.int .i64 y4)
theorem Zq.keep{w0 wk w':World}{b1 b2 b3 b4:Nat}{x1 y1 x2 y2 x3 y3 x4 y4:Int}(h:Zq w0 b1 b2 b3 b4 x1 y1 x2 y2 x3 y3 x4 y4 wk)(hb:Below wk.heap.size wk w'):Zq w0 b1 b2 b3 b4 x1 y1 x2 y2 x3 y3 x4 y4 w':=by
 have on:∀ {b o:Nat} {v:Value},wk.cell? ⟨b,o,none⟩=some v->w'.cell? ⟨b,o,none⟩=some v:=fun h=>(hb.cell (p:=⟨_,_,none⟩) (Zv h)).trans h;obtain ⟨h0,h1,h2,h3,h4,h5,h6,h7,h8⟩:=h;exact ⟨Z9 h0 hb,on h1,on h2,on h3,on h4,on h5,on h6,on h7,on h8⟩
theorem Zq.set{w0 wk:World}{b1 b2 b3 b4:Nat}{x1 y1 x2 y2 x3 y3 x4 y4:Int}(hl:b1<w0.heap.size/\b2<w0.heap.size/\b3<w0.heap.size/\b4<w0.heap.size)(h:Zq w0 b1 b2 b3 b4 x1 y1 x2 y2 x3 y3 x4 y4 wk){K:Nat}(hK:w0.heap.size<=K)(o:Nat)(u:Value):
 Zq w0 b1 b2 b3 b4 x1 y1 x2 y2 x3 y3 x4 y4 (wk.setCell ⟨K,o,none⟩ u):=by
 have on:∀ {b o':Nat} {v:Value},b<w0.heap.size->wk.cell? ⟨b,o',none⟩=some v->(wk.setCell ⟨K,o,none⟩ u).cell? ⟨b,o',none⟩=some v:=fun hb h=>by
  rw [World.cell?_of_block (Below.heap_setCell wk ⟨K,o,none⟩ u _ (by dsimp only;omega))];exact h
 obtain ⟨h0,h1,h2,h3,h4,h5,h6,h7,h8⟩:=h;exact ⟨h0.setCell hK u,on hl.1 h1,on hl.1 h2,on hl.2.1 h3,on hl.2.1 h4,on hl.2.2.1 h5,on hl.2.2.1 h6,on hl.2.2.2 h7,on hl.2.2.2 h8⟩
theorem Zq.zqr{w0 wk:World}{b1 b2 b3 b4:Nat}{x1 y1 x2 y2 x3 y3 x4 y4:Int}(hl:b1<w0.heap.size/\b2<w0.heap.size/\b3<w0.heap.size/\b4<w0.heap.size)(h:Zq w0 b1 b2 b3 b4 x1 y1 x2 y2 x3 y3 x4 y4 wk){K:Nat}(hK:w0.heap.size<=K)(u0 u1 u2 u3 u4 u5:Value):
 Zq w0 b1 b2 b3 b4 x1 y1 x2 y2 x3 y3 x4 y4 ((((((wk.setCell ⟨K,0,none⟩ u0).setCell ⟨K,1,none⟩ u1).setCell ⟨K,2,none⟩ u2).setCell ⟨K,3,none⟩ u3).setCell ⟨K,4,none⟩ u4).setCell ⟨K,5,none⟩ u5):=by
 have st:∀ (w1:World) (o:Nat) (u:Value),Zq w0 b1 b2 b3 b4 x1 y1 x2 y2 x3 y3 x4 y4 w1->Zq w0 b1 b2 b3 b4 x1 y1 x2 y2 x3 y3 x4 y4 (w1.setCell ⟨K,o,none⟩ u):=fun w1 o u h=>Zq.set hl h hK o u;exact st _ _ _ (st _ _ _ (st _ _ _ (st _ _ _ (st _ _ _ (st _ _ _ h)))))
theorem Zq.Qm{w0 wk:World}{b1 b2 b3 b4:Nat}{x1 y1 x2 y2 x3 y3 x4 y4:Int}(hl:b1<w0.heap.size/\b2<w0.heap.size/\b3<w0.heap.size/\b4<w0.heap.size){X Y:Obj}(h:Zq w0 b1 b2 b3 b4 x1 y1 x2 y2 x3 y3 x4 y4 (wk.alloc Y))(hz:w0.heap.size<=wk.heap.size):
 Zq w0 b1 b2 b3 b4 x1 y1 x2 y2 x3 y3 x4 y4 (wk.alloc X):=by
 have hx:∀ k,k<w0.heap.size->(wk.alloc X).heap[k]?=(wk.alloc Y).heap[k]?:=fun k hk =>
  ((Z7 (Below.refl wk.heap.size wk) X).block k (Nat.lt_of_lt_of_le hk hz)).trans ((Z7 (Below.refl wk.heap.size wk) Y).block k (Nat.lt_of_lt_of_le hk hz)).symm
 have on:∀ {b o:Nat} {v:Value},b<w0.heap.size->(wk.alloc Y).cell? ⟨b,o,none⟩=some v->(wk.alloc X).cell? ⟨b,o,none⟩=some v:=fun hb h=>by
  rw [World.cell?_of_block (hx _ hb)];exact h
 obtain ⟨h0,h1,h2,h3,h4,h5,h6,h7,h8⟩:=h;have h0':Below w0.heap.size w0 (wk.alloc X):=⟨h0.os,h0.tape,h0.output,by have:=h0.size;simpa using this,fun k hk=>(hx k hk).trans (h0.block k hk)⟩;exact ⟨h0',on hl.1 h1,on hl.1 h2,on hl.2.1 h3,on hl.2.1 h4,on hl.2.2.1 h5,on hl.2.2.1 h6,on hl.2.2.2 h7,on hl.2.2.2 h8⟩
def V9(x y:Int):Int:=x*x+y*y
def YI(a b c d:Pt):Int :=
 0+V9 (a.1 - d.1) (a.2 - d.2)*XU (b.1 - d.1) (b.2 - d.2) (c.1 - d.1) (c.2 - d.2)
  + V9 (b.1 - d.1) (b.2 - d.2)*XU (c.1 - d.1) (c.2 - d.2) (a.1 - d.1) (a.2 - d.2)
  + V9 (c.1 - d.1) (c.2 - d.2)*XU (a.1 - d.1) (a.2 - d.2) (b.1 - d.1) (b.2 - d.2)
def zqo(t0 t1 t2:Int):Nat->Int
 | 0=>0
 | 1=>0+t0
 | 2=>0+t0+t1
 | _=>0+t0+t1+t2
theorem Sd{ux uy vx vy:Int}(h1:-18446744073709551615<=ux/\ux<=18446744073709551615)(h2:-18446744073709551615<=uy/\uy<=18446744073709551615)(h3:-18446744073709551615<=vx/\vx<=18446744073709551615)(h4:-18446744073709551615<=vy/\vy<=18446744073709551615):Fits 3 (XU ux uy vx vy):=by
 have h:=Wv h1 h2 h3 h4;unfold Fits;rw [w3e];omega
theorem QJ{x y:Int}(h1:-18446744073709551615<=x/\x<=18446744073709551615)(h2:-18446744073709551615<=y/\y<=18446744073709551615):Fits 3 (V9 x y):=by
 have a:=Vi h1.1 h1.2 h1.1 h1.2;have b:=Vi h2.1 h2.2 h2.1 h2.2;unfold Fits V9;rw [w3e];omega
def Tx(wx:World)(K:Nat)(v0 v1 v2 v3 v4 v5:Value)(w':World):Prop :=
 Below wx.heap.size wx w'/\w'.cell? ⟨K,0,none⟩=some v0/\w'.cell? ⟨K,1,none⟩=some v1/\w'.cell? ⟨K,2,none⟩=some v2/\w'.cell? ⟨K,3,none⟩=some v3/\w'.cell? ⟨K,4,none⟩=some v4/\w'.cell? ⟨K,5,none⟩=some v5
theorem Tx.keep{wx wk w':World}{K:Nat}{v0 v1 v2 v3 v4 v5:Value}(h:Tx wx K v0 v1 v2 v3 v4 v5 wk)(hb:Below wk.heap.size wk w'):Tx wx K v0 v1 v2 v3 v4 v5 w':=by
 have on:∀ {b o:Nat} {v:Value},wk.cell? ⟨b,o,none⟩=some v->w'.cell? ⟨b,o,none⟩=some v:=fun h=>(hb.cell (p:=⟨_,_,none⟩) (Zv h)).trans h;obtain ⟨h0,h1,h2,h3,h4,h5,h6⟩:=h;exact ⟨Z9 h0 hb,on h1,on h2,on h3,on h4,on h5,on h6⟩
theorem Sl.step{w w':World}{A:Option Addr}{xs:List Value}(h:Sl w w.heap.size A xs)(hb:Below w.heap.size w w'):Sl w' w'.heap.size A xs:=(h.below hb).more hb.size
theorem Sl.Tc{w w':World}{A:Option Addr}{xs:List Value}{o:Obj}(h:Sl w w.heap.size A xs)(hb:Below (w.alloc o).heap.size (w.alloc o) w'):Sl w' w'.heap.size A xs :=
 (h.step (Z7 (Below.refl _ _) o)).step hb
theorem zym {w:World} {B g:Nat} {A:Option Addr} {l:List Int} {x:Addr} {t:TypeId} (h:Sl w B A (YU l)) (hl:0<l.length) (hA:A=some x) {v0 v1 v2 v3 v4 v5:Option Addr × Nat × Nat}
 (hb:Z6 w g t #[.slice v0.1 v0.2.1 v0.2.2,.slice v1.1 v1.2.1 v1.2.2,.slice v2.1 v2.2.1 v2.2.2,.slice v3.1 v3.2.1 v3.2.2,.slice v4.1 v4.2.1 v4.2.2,.slice v5.1 v5.2.1 v5.2.2]):x.block≠g:=by
 rintro rfl;obtain ⟨b,off,hA',_,hc⟩:=h.u hl;rw [hA'] at hA;cases hA;obtain ⟨y,hy⟩:∃ y,l[0]?=some y:=⟨_,List.getElem?_eq_getElem hl⟩;have c0:=hc 0 y hy;have hcell:=cell_of_row w b (off+0) _ t (0,0) hb;rw [c0] at hcell;generalize off+0=i at hcell
 match i,hcell with
 | 0,h=>simp at h
 | 1,h=>simp at h
 | 2,h=>simp at h
 | 3,h=>simp at h
 | 4,h=>simp at h
 | 5,h=>simp at h
 | i+6,h=>simp at h
theorem Sl.six {w:World} {B K:Nat} {A:Option Addr} {l:List Int} {t:TypeId} (h:Sl w B A (YU l)) (hl:0<l.length)
 (hb:Z6 w K t #[.slice none 0 0,.slice none 0 0,.slice none 0 0,.slice none 0 0,.slice none 0 0,.slice none 0 0]) (u0 u1 u2 u3 u4 u5:Value) :
 Sl ((((((w.setCell ⟨K,0,none⟩ u0).setCell ⟨K,1,none⟩ u1).setCell ⟨K,2,none⟩ u2).setCell ⟨K,3,none⟩ u3).setCell ⟨K,4,none⟩ u4).setCell ⟨K,5,none⟩ u5) B A (YU l):=by
 have hne:∀ (x:Addr),A=some x->x.block≠K:=fun x hx=>zym (v0:=(none,0,0)) (v1:=(none,0,0)) (v2:=(none,0,0)) (v3:=(none,0,0)) (v4:=(none,0,0)) (v5:=(none,0,0)) h hl hx hb;exact (((((h.far (p:=⟨K,0,none⟩) (fun _ z hz=>hne z hz) u0).far (p:=⟨K,1,none⟩) (fun _ z hz=>hne z hz) u1).far (p:=⟨K,2,none⟩) (fun _ z hz=>hne z hz) u2).far (p:=⟨K,3,none⟩) (fun _ z hz=>hne z hz) u3).far (p:=⟨K,4,none⟩) (fun _ z hz=>hne z hz) u4).far (p:=⟨K,5,none⟩) (fun _ z hz=>hne z hz) u5
theorem lJ {w:World} {K:Nat} {t:TypeId}
 (hb:Z6 w K t #[.slice none 0 0,.slice none 0 0,.slice none 0 0,.slice none 0 0,.slice none 0 0,.slice none 0 0]) (u0 u1 u2 u3 u4 u5:Value) :
 Z6 ((((((w.setCell ⟨K,0,none⟩ u0).setCell ⟨K,1,none⟩ u1).setCell ⟨K,2,none⟩ u2).setCell ⟨K,3,none⟩ u3).setCell ⟨K,4,none⟩ u4).setCell ⟨K,5,none⟩ u5) K t #[u0,u1,u2,u3,u4,u5] :=
 (((((hb.set 0 u0).set 1 u1).set 2 u2).set 3 u3).set 4 u4).set 5 u5
def qX(w0 wx:World)(u:Value)(xa ya xb yb xc yc:Int):Prop :=
 ∃ (K:Nat) (A1 A2 A3 A4 A5 A6:Option Addr) (k1 k2 k3 k4 k5 k6:Nat),u=.pointer (some ⟨K,0,none⟩)/\Below w0.heap.size w0 wx/\Z6 wx K 286 #[.slice A1 2 k1,.slice A2 2 k2,.slice A3 2 k3,.slice A4 2 k4,.slice A5 2 k5,.slice A6 2 k6] /\
  (Sl wx wx.heap.size A1 (YU (ZN 2 xa))/\Sl wx wx.heap.size A2 (YU (ZN 2 ya)))/\(Sl wx wx.heap.size A3 (YU (ZN 2 xb))/\Sl wx wx.heap.size A4 (YU (ZN 2 yb)))/\(Sl wx wx.heap.size A5 (YU (ZN 2 xc))/\Sl wx wx.heap.size A6 (YU (ZN 2 yc)))
theorem Io {w0 w:World} {K:Nat} {xa ya xb yb xc yc:Int} {A1 A2 A3 A4 A5 A6:Option Addr} {k1 k2 k3 k4 k5 k6:Nat}
 (hb:Z6 w K 286 #[.slice none 0 0,.slice none 0 0,.slice none 0 0,.slice none 0 0,.slice none 0 0,.slice none 0 0])
 (hB:Below w0.heap.size w0 ((((((w.setCell ⟨K,0,none⟩ (.slice A1 2 k1)).setCell ⟨K,1,none⟩ (.slice A2 2 k2)).setCell ⟨K,2,none⟩ (.slice A3 2 k3)).setCell ⟨K,3,none⟩ (.slice A4 2 k4)).setCell ⟨K,4,none⟩ (.slice A5 2 k5)).setCell ⟨K,5,none⟩ (.slice A6 2 k6)))
 (h1:Sl w w.heap.size A1 (YU (ZN 2 xa))) (h2:Sl w w.heap.size A2 (YU (ZN 2 ya))) (h3:Sl w w.heap.size A3 (YU (ZN 2 xb))) (h4:Sl w w.heap.size A4 (YU (ZN 2 yb))) (h5:Sl w w.heap.size A5 (YU (ZN 2 xc))) (h6:Sl w w.heap.size A6 (YU (ZN 2 yc))) :
 qX w0 ((((((w.setCell ⟨K,0,none⟩ (.slice A1 2 k1)).setCell ⟨K,1,none⟩ (.slice A2 2 k2)).setCell ⟨K,2,none⟩ (.slice A3 2 k3)).setCell ⟨K,3,none⟩ (.slice A4 2 k4)).setCell ⟨K,4,none⟩ (.slice A5 2 k5)).setCell ⟨K,5,none⟩ (.slice A6 2 k6)) (.pointer (some ⟨K,0,none⟩)) xa ya xb yb xc yc:=by
 have hl:∀ z,0<(ZN 2 z).length:=fun z=>by rw [ZC];omega
 have six:∀ {A:Option Addr} {z:Int},Sl w w.heap.size A (YU (ZN 2 z))->Sl ((((((w.setCell ⟨K,0,none⟩ (.slice A1 2 k1)).setCell ⟨K,1,none⟩ (.slice A2 2 k2)).setCell ⟨K,2,none⟩ (.slice A3 2 k3)).setCell ⟨K,3,none⟩ (.slice A4 2 k4)).setCell ⟨K,4,none⟩ (.slice A5 2 k5)).setCell ⟨K,5,none⟩ (.slice A6 2 k6)) ((((((w.setCell ⟨K,0,none⟩ (.slice A1 2 k1)).setCell ⟨K,1,none⟩ (.slice A2 2 k2)).setCell ⟨K,2,none⟩ (.slice A3 2 k3)).setCell ⟨K,3,none⟩ (.slice A4 2 k4)).setCell ⟨K,4,none⟩ (.slice A5 2 k5)).setCell ⟨K,5,none⟩ (.slice A6 2 k6)).heap.size A (YU (ZN 2 z)):=fun h=>by
  have h':=h.six (hl _) hb (.slice A1 2 k1) (.slice A2 2 k2) (.slice A3 2 k3) (.slice A4 2 k4) (.slice A5 2 k5) (.slice A6 2 k6);simpa only [World.size_setCell] using h'
 exact ⟨K,A1,A2,A3,A4,A5,A6,k1,k2,k3,k4,k5,k6,rfl,hB,lJ hb _ _ _ _ _ _,⟨six h1,six h2⟩,⟨six h3,six h4⟩,⟨six h5,six h6⟩⟩
theorem CZ {w0 w:World} {xa ya xb yb xc yc:Int} {A1 A2 A3 A4 A5 A6:Option Addr} {k1 k2 k3 k4 k5 k6:Nat}
 (hB:Below w0.heap.size w0 (w.alloc (.cells #[.slice A1 2 k1,.slice A2 2 k2,.slice A3 2 k3,.slice A4 2 k4,.slice A5 2 k5,.slice A6 2 k6] 286)))
 (h1:Sl w w.heap.size A1 (YU (ZN 2 xa))) (h2:Sl w w.heap.size A2 (YU (ZN 2 ya))) (h3:Sl w w.heap.size A3 (YU (ZN 2 xb))) (h4:Sl w w.heap.size A4 (YU (ZN 2 yb))) (h5:Sl w w.heap.size A5 (YU (ZN 2 xc))) (h6:Sl w w.heap.size A6 (YU (ZN 2 yc))) :
 qX w0 (w.alloc (.cells #[.slice A1 2 k1,.slice A2 2 k2,.slice A3 2 k3,.slice A4 2 k4,.slice A5 2 k5,.slice A6 2 k6] 286)) (.pointer (some ⟨w.heap.size,0,none⟩)) xa ya xb yb xc yc :=
 have al:=Z7 (Below.refl w.heap.size w) (.cells #[.slice A1 2 k1,.slice A2 2 k2,.slice A3 2 k3,.slice A4 2 k4,.slice A5 2 k5,.slice A6 2 k6] 286)
 ⟨w.heap.size,A1,A2,A3,A4,A5,A6,k1,k2,k3,k4,k5,k6,rfl,hB,Z6.new _ _ _,⟨h1.step al,h2.step al⟩,⟨h3.step al,h4.step al⟩,⟨h5.step al,h6.step al⟩⟩
theorem rT(a b c d:Pt)(ha:PJ a)(hb:PJ b)(hc:PJ c)(hd:PJ d)(w:World):
 Calls prog 188 #[.agg #[.int .i64 a.1,.int .i64 a.2],.agg #[.int .i64 b.1,.int .i64 b.2],.agg #[.int .i64 c.1,.int .i64 c.2],.agg #[.int .i64 d.1,.int .i64 d.2]] w (YC 5 (YI a b c d) w):=by
 obtain ⟨w0,hw0⟩:=eE ((((w.alloc (.cells #[.int .i64 a.1,.int .i64 a.2] 41)).alloc (.cells #[.int .i64 b.1,.int .i64 b.2] 41)).alloc (.cells #[.int .i64 c.1,.int .i64 c.2] 41)).alloc (.cells #[.int .i64 d.1,.int .i64 d.2] 41));have hb0:Below w.heap.size w w0:=by rw [hw0];exact Z7 (Z7 (Z7 (bA) _) _) _
 have PA:Z6 w0 w.heap.size 41 #[.int .i64 a.1,.int .i64 a.2]:=by rw [hw0];exact (((Z6.new _ _ _).alloc _).alloc _).alloc _
 have PB:Z6 w0 (w.heap.size+1) 41 #[.int .i64 b.1,.int .i64 b.2]:=by rw [hw0];exact ((Z6.new2 _ _ _ _).alloc _).alloc _
 have PC:Z6 w0 (w.heap.size+1+1) 41 #[.int .i64 c.1,.int .i64 c.2]:=by
  rw [hw0];have h:=Z6.new ((w.alloc (.cells #[.int .i64 a.1,.int .i64 a.2] 41)).alloc (.cells #[.int .i64 b.1,.int .i64 b.2] 41)) 41 #[.int .i64 c.1,.int .i64 c.2];have h2:=h.alloc (.cells #[.int .i64 d.1,.int .i64 d.2] 41);simpa using h2
 have jN:Z6 w0 (w.heap.size+1+1+1) 41 #[.int .i64 d.1,.int .i64 d.2]:=by
  rw [hw0];have h:=Z6.new (((w.alloc (.cells #[.int .i64 a.1,.int .i64 a.2] 41)).alloc (.cells #[.int .i64 b.1,.int .i64 b.2] 41)).alloc (.cells #[.int .i64 c.1,.int .i64 c.2] 41)) 41 #[.int .i64 d.1,.int .i64 d.2];simpa using h
 have HB1:=hide (fun wk=>Vp d.1 d.2 a.1 a.2 hd.1 hd.2 ha.1 ha.2 wk);have HB2:=hide (fun wk=>Vp d.1 d.2 b.1 b.2 hd.1 hd.2 hb.1 hb.2 wk);have HB3:=hide (fun wk=>Vp d.1 d.2 c.1 c.2 hd.1 hd.2 hc.1 hc.2 wk);have hl:w.heap.size<w0.heap.size/\w.heap.size+1<w0.heap.size/\w.heap.size+1+1<w0.heap.size/\w.heap.size+1+1+1<w0.heap.size:=⟨PA.lt,PB.lt,PC.lt,jN.lt⟩;have h00:Zq w0 w.heap.size (w.heap.size+1) (w.heap.size+1+1) (w.heap.size+1+1+1) a.1 a.2 b.1 b.2 c.1 c.2 d.1 d.2 w0:=⟨Below.refl _ _,PA.q0 rfl,PA.q1 rfl,PB.q0 rfl,PB.q1 rfl,PC.q0 rfl,PC.q1 rfl,jN.q0 rfl,jN.q1 rfl⟩
 have Td:Hid (∀ (A1 A2:Option Addr) (c1 c2:Nat) (x y:Int) (wk:World),(-18446744073709551615<=x/\x<=18446744073709551615)->(-18446744073709551615<=y/\y<=18446744073709551615)->Sl wk wk.heap.size A1 (YU (ZN 2 x))->Sl wk wk.heap.size A2 (YU (ZN 2 y)) ->
  Calls prog 252 #[.agg #[.slice A1 2 c1,.slice A2 2 c2]] wk (YC 4 (V9 x y) wk)) :=
  hide fun A1 A2 c1 c2 x y wk hx hy h1 h2=>vD x y (by unfold Fits;rw [w2];omega) (by unfold Fits;rw [w2];omega) A1 A2 c1 c2 wk h1 h2
 have qg:Hid (∀ (A1 A2 A3 A4:Option Addr) (c1 c2 c3 c4:Nat) (ux uy vx vy:Int) (wk:World),(-18446744073709551615<=ux/\ux<=18446744073709551615)->(-18446744073709551615<=uy/\uy<=18446744073709551615)->(-18446744073709551615<=vx/\vx<=18446744073709551615)->(-18446744073709551615<=vy/\vy<=18446744073709551615)->Sl wk wk.heap.size A1 (YU (ZN 2 ux))->Sl wk wk.heap.size A2 (YU (ZN 2 uy))->Sl wk wk.heap.size A3 (YU (ZN 2 vx))->Sl wk wk.heap.size A4 (YU (ZN 2 vy)) ->
  Calls prog 249 #[.agg #[.slice A1 2 c1,.slice A2 2 c2],.agg #[.slice A3 2 c3,.slice A4 2 c4]] wk (YC 4 (XU ux uy vx vy) wk)) :=
  hide fun A1 A2 A3 A4 c1 c2 c3 c4 ux uy vx vy wk b1 b2 b3 b4 h1 h2 h3 h4=>JC _ _ _ _ (by unfold Fits;rw [w2];omega) (by unfold Fits;rw [w2];omega) (by unfold Fits;rw [w2];omega) (by unfold Fits;rw [w2];omega) A1 A2 A3 A4 c1 c2 c3 c4 wk h1 h2 h3 h4
 have jL:Hid (∀ (A:Option Addr) (k:Nat) (v:Int) (wk:World),Sl wk wk.heap.size A (YU (ZN 4 v))->Calls prog 248 #[.slice A 4 k,.int .i64 3] wk (YC 3 v wk)) :=
  hide fun A k v wk h=>VX (VG 4 3 _ (.inr (by omega)) (by omega) (by omega) (by omega) (by omega) A k wk h)
 have HX5:Hid (∀ (A:Option Addr) (k:Nat) (v:Int) (wk:World),Sl wk wk.heap.size A (YU (ZN 6 v))->Calls prog 248 #[.slice A 6 k,.int .i64 5] wk (YC 5 v wk)) :=
  hide fun A k v wk h=>VX (VG 6 5 _ (.inr (by omega)) (by omega) (by omega) (by omega) (by omega) A k wk h)
 have HMU:Hid (∀ (A A':Option Addr) (k k':Nat) (x y:Int) (wk:World),Fits 3 x->Fits 3 y->Sl wk wk.heap.size A (YU (ZN 3 x))->Sl wk wk.heap.size A' (YU (ZN 3 y))->Calls prog 254 #[.slice A 3 k,.slice A' 3 k'] wk (YC 6 (x*y) wk)) :=
  hide fun A A' k k' x y wk hx hy h h'=>VX (SC 3 3 x y (by omega) (by omega) (by omega) hx hy A A' k k' wk h h')
 have HAD:Hid (∀ (A A':Option Addr) (k k':Nat) (x y:Int) (wk:World),Sl wk wk.heap.size A (YU (ZN 5 x))->Sl wk wk.heap.size A' (YU (ZN 5 y))->Calls prog 253 #[.slice A 5 k,.slice A' 5 k'] wk (YC 5 (x+y) wk)) :=
  hide fun A A' k k' x y wk h h'=>VX (FQ 5 x y (by omega) (by omega) A A' k k' wk h h')
 have HFR:Hid (∀ wk,Calls prog 251 #[.int .i64 0,.int .i64 5] wk (YC 5 0 wk)):=hide fun wk=>VX (LH 0 (by omega) (by omega) 5 (by omega) (by omega) wk)
 have Wp:=hide (show ((-18446744073709551615<=a.1 - d.1/\a.1 - d.1<=18446744073709551615)/\(-18446744073709551615<=a.2 - d.2/\a.2 - d.2<=18446744073709551615))/\((-18446744073709551615<=b.1 - d.1/\b.1 - d.1<=18446744073709551615)/\(-18446744073709551615<=b.2 - d.2/\b.2 - d.2<=18446744073709551615))/\((-18446744073709551615<=c.1 - d.1/\c.1 - d.1<=18446744073709551615)/\(-18446744073709551615<=c.2 - d.2/\c.2 - d.2<=18446744073709551615)) from
  ⟨⟨WO ha.1 hd.1,WO ha.2 hd.2⟩,⟨WO hb.1 hd.1,WO hb.2 hd.2⟩,⟨WO hc.1 hd.1,WO hc.2 hd.2⟩⟩)
 have HL:=hide hl;clear ha hb hc hd hl PA PB PC jN;obtain ⟨a,a'⟩:=a;obtain ⟨b,b'⟩:=b;obtain ⟨c,c'⟩:=c;obtain ⟨d,d'⟩:=d;dsimp only at *;have hd0:=h00.keep (ZU (Below.refl _ _));go_enter func188,ntmps188;go_wp2;rw [<- hw0];have HW0:=hide hw0;clear hw0
 go_cut [9] from 14 to 23 (fun u wx=>qX w0 wx u (a - d) (a' - d') (b - d) (b' - d') (c - d) (c' - d'))
 case first =>
  go_region_held3 (fun w'=>Below w0.heap.size w0 w'/\w'.cell? ⟨w.heap.size,0,none⟩=some (.int .i64 a)/\w'.cell? ⟨w.heap.size,1,none⟩=some (.int .i64 a')/\w'.cell? ⟨w.heap.size+1,0,none⟩=some (.int .i64 b)/\w'.cell? ⟨w.heap.size+1,1,none⟩=some (.int .i64 b')/\w'.cell? ⟨w.heap.size+1+1,0,none⟩=some (.int .i64 c)/\w'.cell? ⟨w.heap.size+1+1,1,none⟩=some (.int .i64 c')/\w'.cell? ⟨w.heap.size+1+1+1,0,none⟩=some (.int .i64 d)/\w'.cell? ⟨w.heap.size+1+1+1,1,none⟩=some (.int .i64 d'))
   (first|with_reducible exact Zq.zqr HL.out (by assumption) (by have z1:=hb1.size;have z2:=hb2.size;have z3:=hb3.size;simp only [World.drew] at z1 z2 z3;omega) _ _ _ _ _ _|with_reducible exact hd0|with_reducible exact h00|with_reducible exact Zq.keep (by assumption) (by assumption)|with_reducible exact hd0.keep (by assumption)|with_reducible exact Zq.keep (by assumption) (bA)|with_reducible exact hd0.keep (bA)|with_reducible exact Zq.Qm HL.out (by assumption) (by have z1:=hb1.size;have z2:=hb2.size;have z3:=hb3.size;simp only [World.drew] at z1 z2 z3;omega))
   (first
     | (go_at_call 250;((with_reducible refine (HB1.out _).mono ?_);rintro e w' ⟨A1,k1,A2,k2,rfl,hb1,hs1,hs2⟩;unfold VP;(first|(have hN:=Xz hb1;have z0:=hN.q0 rfl;have z1:=hN.q1 rfl;have z2:=hN.q2 rfl;have z3:=hN.q3 rfl;have z4:=hN.q4 rfl;have z5:=hN.q5 rfl;have y0:=hN.frozen 0;have y1:=hN.frozen 1;have y2:=hN.frozen 2;have y3:=hN.frozen 3;have y4:=hN.frozen 4;have y5:=hN.frozen 5)|skip)))
     | (go_at_call 250;((with_reducible refine (HB2.out _).mono ?_);rintro e w' ⟨A3,k3,A4,k4,rfl,hb2,hs3,hs4⟩;unfold VP;(first|(have hN:=Ya hb2;have z0:=hN.q0 rfl;have z1:=hN.q1 rfl;have z2:=hN.q2 rfl;have z3:=hN.q3 rfl;have z4:=hN.q4 rfl;have z5:=hN.q5 rfl;have y0:=hN.frozen 0;have y1:=hN.frozen 1;have y2:=hN.frozen 2;have y3:=hN.frozen 3;have y4:=hN.frozen 4;have y5:=hN.frozen 5)|(have hN:=hN.step hb2;have z0:=hN.q0 rfl;have z1:=hN.q1 rfl;have z2:=hN.q2 rfl;have z3:=hN.q3 rfl;have z4:=hN.q4 rfl;have z5:=hN.q5 rfl;have y0:=hN.frozen 0;have y1:=hN.frozen 1;have y2:=hN.frozen 2;have y3:=hN.frozen 3;have y4:=hN.frozen 4;have y5:=hN.frozen 5)|skip)))
     | (go_at_call 250;((with_reducible refine (HB3.out _).mono ?_);rintro e w' ⟨A5,k5,A6,k6,rfl,hb3,hs5,hs6⟩;unfold VP;(first|(have hN:=Ya hb3;have z0:=hN.q0 rfl;have z1:=hN.q1 rfl;have z2:=hN.q2 rfl;have z3:=hN.q3 rfl;have z4:=hN.q4 rfl;have z5:=hN.q5 rfl;have y0:=hN.frozen 0;have y1:=hN.frozen 1;have y2:=hN.frozen 2;have y3:=hN.frozen 3;have y4:=hN.frozen 4;have y5:=hN.frozen 5)|(have hN:=hN.step hb3;have z0:=hN.q0 rfl;have z1:=hN.q1 rfl;have z2:=hN.q2 rfl;have z3:=hN.q3 rfl;have z4:=hN.q4 rfl;have z5:=hN.q5 rfl;have y0:=hN.frozen 0;have y1:=hN.frozen 1;have y2:=hN.frozen 2;have y3:=hN.frozen 3;have y4:=hN.frozen 4;have y5:=hN.frozen 5)|skip))))
  all_goals
   have g1:=(by first|with_reducible exact hs1.step hb2|with_reducible exact hs1.Tc hb2:Sl _ _ A1 (YU (ZN 2 (a - d))));have g2:=(by first|with_reducible exact hs2.step hb2|with_reducible exact hs2.Tc hb2:Sl _ _ A2 (YU (ZN 2 (a' - d'))));have f1:=(by first|with_reducible exact g1.step hb3|with_reducible exact g1.Tc hb3:Sl _ _ A1 (YU (ZN 2 (a - d))));have f2:=(by first|with_reducible exact g2.step hb3|with_reducible exact g2.Tc hb3:Sl _ _ A2 (YU (ZN 2 (a' - d'))));have f3:=(by first|with_reducible exact hs3.step hb3|with_reducible exact hs3.Tc hb3:Sl _ _ A3 (YU (ZN 2 (b - d))));have f4:=(by first|with_reducible exact hs4.step hb3|with_reducible exact hs4.Tc hb3:Sl _ _ A4 (YU (ZN 2 (b' - d'))))
   rename_i Ym
   have Ic:=Ym.1
   (first|(with_reducible have FIN:=hide (Io hN Ic f1 f2 f3 f4 hs5 hs6))|(with_reducible have FIN:=hide (CZ Ic f1 f2 f3 f4 hs5 hs6)))
   clear Ym Ic f1 f2 f3 f4 g1 g2 hs1 hs2 hs3 hs4 hs5 hs6 hb1 hb2 hb3
  all_goals go_wp2_with fail
  all_goals go_meet
  all_goals exact FIN.out
 case rest =>
  obtain ⟨K,A1,A2,A3,A4,A5,A6,k1,k2,k3,k4,k5,k6,rfl,hbx,RB0,⟨s1,s2⟩,⟨s3,s4⟩,⟨s5,s6⟩⟩:=hcut;have RB:=hide RB0
  have HN0:Hid (∀ wk,Below wc.heap.size wc wk->Calls prog 252 #[.agg #[.slice A1 2 k1,.slice A2 2 k2]] wk (YC 4 (V9 (a - d) (a' - d')) wk)) :=
   hide fun wk hk=>Td.out A1 A2 k1 k2 _ _ wk Wp.out.1.1 Wp.out.1.2 (s1.step hk) (s2.step hk)
  have Qz:Hid (∀ wk,Below wc.heap.size wc wk->Calls prog 249 #[.agg #[.slice A3 2 k3,.slice A4 2 k4],.agg #[.slice A5 2 k5,.slice A6 2 k6]] wk (YC 4 (XU (b - d) (b' - d') (c - d) (c' - d')) wk)) :=
   hide fun wk hk=>qg.out A3 A4 A5 A6 k3 k4 k5 k6 _ _ _ _ wk Wp.out.2.1.1 Wp.out.2.1.2 Wp.out.2.2.1 Wp.out.2.2.2 (s3.step hk) (s4.step hk) (s5.step hk) (s6.step hk)
  have Bh:Hid (Fits 3 (V9 (a - d) (a' - d'))/\Fits 3 (XU (b - d) (b' - d') (c - d) (c' - d'))):=hide ⟨QJ Wp.out.1.1 Wp.out.1.2,Sd Wp.out.2.1.1 Wp.out.2.1.2 Wp.out.2.2.1 Wp.out.2.2.2⟩
  have HN1:Hid (∀ wk,Below wc.heap.size wc wk->Calls prog 252 #[.agg #[.slice A3 2 k3,.slice A4 2 k4]] wk (YC 4 (V9 (b - d) (b' - d')) wk)) :=
   hide fun wk hk=>Td.out A3 A4 k3 k4 _ _ wk Wp.out.2.1.1 Wp.out.2.1.2 (s3.step hk) (s4.step hk)
  have Ru:Hid (∀ wk,Below wc.heap.size wc wk->Calls prog 249 #[.agg #[.slice A5 2 k5,.slice A6 2 k6],.agg #[.slice A1 2 k1,.slice A2 2 k2]] wk (YC 4 (XU (c - d) (c' - d') (a - d) (a' - d')) wk)) :=
   hide fun wk hk=>qg.out A5 A6 A1 A2 k5 k6 k1 k2 _ _ _ _ wk Wp.out.2.2.1 Wp.out.2.2.2 Wp.out.1.1 Wp.out.1.2 (s5.step hk) (s6.step hk) (s1.step hk) (s2.step hk)
  have HF1:Hid (Fits 3 (V9 (b - d) (b' - d'))/\Fits 3 (XU (c - d) (c' - d') (a - d) (a' - d'))):=hide ⟨QJ Wp.out.2.1.1 Wp.out.2.1.2,Sd Wp.out.2.2.1 Wp.out.2.2.2 Wp.out.1.1 Wp.out.1.2⟩
  have HN2:Hid (∀ wk,Below wc.heap.size wc wk->Calls prog 252 #[.agg #[.slice A5 2 k5,.slice A6 2 k6]] wk (YC 4 (V9 (c - d) (c' - d')) wk)) :=
   hide fun wk hk=>Td.out A5 A6 k5 k6 _ _ wk Wp.out.2.2.1 Wp.out.2.2.2 (s5.step hk) (s6.step hk)
  have OD:Hid (∀ wk,Below wc.heap.size wc wk->Calls prog 249 #[.agg #[.slice A1 2 k1,.slice A2 2 k2],.agg #[.slice A3 2 k3,.slice A4 2 k4]] wk (YC 4 (XU (a - d) (a' - d') (b - d) (b' - d')) wk)) :=
   hide fun wk hk=>qg.out A1 A2 A3 A4 k1 k2 k3 k4 _ _ _ _ wk Wp.out.1.1 Wp.out.1.2 Wp.out.2.1.1 Wp.out.2.1.2 (s1.step hk) (s2.step hk) (s3.step hk) (s4.step hk)
  have ql:Hid (Fits 3 (V9 (c - d) (c' - d'))/\Fits 3 (XU (a - d) (a' - d') (b - d) (b' - d'))):=hide ⟨QJ Wp.out.2.2.1 Wp.out.2.2.2,Sd Wp.out.1.1 Wp.out.1.2 Wp.out.2.1.1 Wp.out.2.1.2⟩;have Em:=hide (Z9 hb0 hbx);clear s1 s2 s3 s4 s5 s6 RB0 Wp Td qg HB1 HB2 HB3 h00 hd0 hbx hb0 HL;go_wp2_with fail;refine (HFR.out _).mono ?_;rintro e w1 ⟨A0,k0,rfl,hb1,hs0⟩;go_wp2
  go_loopw [10,25] (fun u i wr=>∃ (q:Int) (A:Option Addr) (kc:Nat),0<=q/\q<=3/\i=.int .i64 q/\u=.slice A 5 kc/\Below wc.heap.size wc wr/\Sl wr wr.heap.size A (YU (ZN 5 (zqo (V9 (a - d) (a' - d')*XU (b - d) (b' - d') (c - d) (c' - d')) (V9 (b - d) (b' - d')*XU (c - d) (c' - d') (a - d) (a' - d')) (V9 (c - d) (c' - d')*XU (a - d) (a' - d') (b - d) (b' - d')) q.toNat))))
   (fun _ i _=>3 - (intOf i).toNat)
  case atStart=>exact ⟨0,A0,k0,by omega,by omega,rfl,rfl,hb1,hs0⟩
  case round =>
   clear hb1 hs0;obtain ⟨q,A,kc,hq0,hq3,rfl,rfl,hbr,hsr⟩:=hrel;have hk4:q=0\/q=1\/q=2\/q=3:=(by omega);clear hq0 hq3;rcases hk4 with rfl|rfl|rfl|rfl
   · -- round 0
     have RW:=RB.out.step hbr;have z0:wr.cell? ⟨K,0,none⟩=some (.slice A1 2 k1):=RW.q0 rfl;have z1:wr.cell? ⟨K,1,none⟩=some (.slice A2 2 k2):=RW.q1 rfl;have z2:wr.cell? ⟨K,2,none⟩=some (.slice A3 2 k3):=RW.q2 rfl;have z3:wr.cell? ⟨K,3,none⟩=some (.slice A4 2 k4):=RW.q3 rfl;have z4:wr.cell? ⟨K,4,none⟩=some (.slice A5 2 k5):=RW.q4 rfl;have z5:wr.cell? ⟨K,5,none⟩=some (.slice A6 2 k6):=RW.q5 rfl;have hd6:=Tx.keep (wx:=wc) (K:=K) ⟨hbr,z0,z1,z2,z3,z4,z5⟩ (ZU (Below.refl _ _));have hbd:=ZU hbr;have q1:(IntKind.i64.wrap 1).tmod 3=1:=(by decide);have q2:(IntKind.i64.wrap 2).tmod 3=2:=(by decide);clear RW;go_wp2_with fail
     go_region_held3 (fun w'=>Below wc.heap.size wc w'/\w'.cell? ⟨K,0,none⟩=some (.slice A1 2 k1)/\w'.cell? ⟨K,1,none⟩=some (.slice A2 2 k2)/\w'.cell? ⟨K,2,none⟩=some (.slice A3 2 k3)/\w'.cell? ⟨K,3,none⟩=some (.slice A4 2 k4)/\w'.cell? ⟨K,4,none⟩=some (.slice A5 2 k5)/\w'.cell? ⟨K,5,none⟩=some (.slice A6 2 k6))
      (first|exact hd6|exact Tx.keep (by assumption) (by assumption)|exact hd6.keep (by assumption))
      (first
        | (go_at_call 249;((with_reducible refine (Qz.out _ hbd).mono ?_);rintro e w' ⟨A7,k7,rfl,hb2,hs7⟩))
        | (go_at_call 248;((with_reducible refine (jL.out _ _ _ _ hs7).mono ?_);rintro e w' ⟨A8,k8,rfl,hb3,yO⟩)))
     rename_i w2 Ym
     obtain ⟨w3,hw3⟩:=eE w';subst hw3;clear Ym z0 z1 z2 z3 z4 z5 hd6 q1 q2;have hB3:=Z9 (Z9 hbd hb2) hb3;have RW:=RB.out.step hB3;have z0:w3.cell? ⟨K,0,none⟩=some (.slice A1 2 k1):=RW.q0 rfl;have z1:w3.cell? ⟨K,1,none⟩=some (.slice A2 2 k2):=RW.q1 rfl;have z2:w3.cell? ⟨K,2,none⟩=some (.slice A3 2 k3):=RW.q2 rfl;have z3:w3.cell? ⟨K,3,none⟩=some (.slice A4 2 k4):=RW.q3 rfl;have z4:w3.cell? ⟨K,4,none⟩=some (.slice A5 2 k5):=RW.q4 rfl;have z5:w3.cell? ⟨K,5,none⟩=some (.slice A6 2 k6):=RW.q5 rfl;have hsA:=hide (((hsr.drew.step (w:=wr.drew) hb2).step hb3));have j5:=hide yO;clear RW hbr hbd hs7 yO hsr hb2 hb3;go_wp2_with fail;refine (HN0.out _ hB3).mono ?_;rintro e w4 ⟨A9,k9,rfl,hb4,xu⟩;clear z0 z1 z2 z3 z4 z5;go_wp2_with fail;refine (jL.out _ _ _ _ xu).mono ?_;rintro e w5 ⟨A10,k10,rfl,hb5,Nv⟩;have VT:=hide ((j5.out.step hb4).step hb5);have jR:=hide ((hsA.out.step hb4).step hb5);have qD:=Z9 (Z9 hB3 hb4) hb5;clear j5 hsA hb4 hb5 hB3 xu;have C1:=hide (HMU.out _ _ k10 k8 _ _ _ Bh.out.1 Bh.out.2 Nv VT.out);clear Nv;go_wp2_with fail;refine C1.out.mono ?_;rintro e w6 ⟨A11,k11,rfl,hb6,Nw⟩;have C2:=hide (HX5.out _ k11 _ _ Nw);clear Nw VT;go_wp2_with fail;refine C2.out.mono ?_;rintro e w7 ⟨A12,k12,rfl,Nr,KJ⟩;have C3:=hide (HAD.out _ _ kc k12 _ _ _ ((jR.out.step hb6).step Nr) KJ);clear KJ jR;go_wp2_with fail;refine C3.out.mono ?_;rintro e w8 ⟨A13,k13,rfl,Sm,FI⟩;have hB8:=Z9 (Z9 (Z9 qD hb6) Nr) Sm;have Bu:=hide FI;clear FI hb6 Nr Sm qD C1 C2 C3;go_wp2;go_roundw
     case rel=>exact ⟨1,A13,k13,by omega,by omega,rfl,rfl,hB8,Bu.out⟩
     case measure=>simp [intOf]
   · -- round 1
     have RW:=RB.out.step hbr;have z0:wr.cell? ⟨K,0,none⟩=some (.slice A1 2 k1):=RW.q0 rfl;have z1:wr.cell? ⟨K,1,none⟩=some (.slice A2 2 k2):=RW.q1 rfl;have z2:wr.cell? ⟨K,2,none⟩=some (.slice A3 2 k3):=RW.q2 rfl;have z3:wr.cell? ⟨K,3,none⟩=some (.slice A4 2 k4):=RW.q3 rfl;have z4:wr.cell? ⟨K,4,none⟩=some (.slice A5 2 k5):=RW.q4 rfl;have z5:wr.cell? ⟨K,5,none⟩=some (.slice A6 2 k6):=RW.q5 rfl;have hd6:=Tx.keep (wx:=wc) (K:=K) ⟨hbr,z0,z1,z2,z3,z4,z5⟩ (ZU (Below.refl _ _));have hbd:=ZU hbr;have q1:(IntKind.i64.wrap 2).tmod 3=2:=(by decide);have q2:(IntKind.i64.wrap 3).tmod 3=0:=(by decide);clear RW;go_wp2_with fail
     go_region_held3 (fun w'=>Below wc.heap.size wc w'/\w'.cell? ⟨K,0,none⟩=some (.slice A1 2 k1)/\w'.cell? ⟨K,1,none⟩=some (.slice A2 2 k2)/\w'.cell? ⟨K,2,none⟩=some (.slice A3 2 k3)/\w'.cell? ⟨K,3,none⟩=some (.slice A4 2 k4)/\w'.cell? ⟨K,4,none⟩=some (.slice A5 2 k5)/\w'.cell? ⟨K,5,none⟩=some (.slice A6 2 k6))
      (first|exact hd6|exact Tx.keep (by assumption) (by assumption)|exact hd6.keep (by assumption))
      (first
        | (go_at_call 249;((with_reducible refine (Ru.out _ hbd).mono ?_);rintro e w' ⟨A7,k7,rfl,hb2,hs7⟩))
        | (go_at_call 248;((with_reducible refine (jL.out _ _ _ _ hs7).mono ?_);rintro e w' ⟨A8,k8,rfl,hb3,yO⟩)))
     rename_i w2 Ym
     obtain ⟨w3,hw3⟩:=eE w';subst hw3;clear Ym z0 z1 z2 z3 z4 z5 hd6 q1 q2;have hB3:=Z9 (Z9 hbd hb2) hb3;have RW:=RB.out.step hB3;have z0:w3.cell? ⟨K,0,none⟩=some (.slice A1 2 k1):=RW.q0 rfl;have z1:w3.cell? ⟨K,1,none⟩=some (.slice A2 2 k2):=RW.q1 rfl;have z2:w3.cell? ⟨K,2,none⟩=some (.slice A3 2 k3):=RW.q2 rfl;have z3:w3.cell? ⟨K,3,none⟩=some (.slice A4 2 k4):=RW.q3 rfl;have z4:w3.cell? ⟨K,4,none⟩=some (.slice A5 2 k5):=RW.q4 rfl;have z5:w3.cell? ⟨K,5,none⟩=some (.slice A6 2 k6):=RW.q5 rfl;have hsA:=hide (((hsr.drew.step (w:=wr.drew) hb2).step hb3));have j5:=hide yO;clear RW hbr hbd hs7 yO hsr hb2 hb3;go_wp2_with fail;refine (HN1.out _ hB3).mono ?_;rintro e w4 ⟨A9,k9,rfl,hb4,xu⟩;clear z0 z1 z2 z3 z4 z5;go_wp2_with fail;refine (jL.out _ _ _ _ xu).mono ?_;rintro e w5 ⟨A10,k10,rfl,hb5,Nv⟩;have VT:=hide ((j5.out.step hb4).step hb5);have jR:=hide ((hsA.out.step hb4).step hb5);have qD:=Z9 (Z9 hB3 hb4) hb5;clear j5 hsA hb4 hb5 hB3 xu;have C1:=hide (HMU.out _ _ k10 k8 _ _ _ HF1.out.1 HF1.out.2 Nv VT.out);clear Nv;go_wp2_with fail;refine C1.out.mono ?_;rintro e w6 ⟨A11,k11,rfl,hb6,Nw⟩;have C2:=hide (HX5.out _ k11 _ _ Nw);clear Nw VT;go_wp2_with fail;refine C2.out.mono ?_;rintro e w7 ⟨A12,k12,rfl,Nr,KJ⟩;have C3:=hide (HAD.out _ _ kc k12 _ _ _ ((jR.out.step hb6).step Nr) KJ);clear KJ jR;go_wp2_with fail;refine C3.out.mono ?_;rintro e w8 ⟨A13,k13,rfl,Sm,FI⟩;have hB8:=Z9 (Z9 (Z9 qD hb6) Nr) Sm;have Bu:=hide FI;clear FI hb6 Nr Sm qD C1 C2 C3;go_wp2;go_roundw
     case rel=>exact ⟨2,A13,k13,by omega,by omega,rfl,rfl,hB8,Bu.out⟩
     case measure=>simp [intOf]
   · -- round 2
     have RW:=RB.out.step hbr;have z0:wr.cell? ⟨K,0,none⟩=some (.slice A1 2 k1):=RW.q0 rfl;have z1:wr.cell? ⟨K,1,none⟩=some (.slice A2 2 k2):=RW.q1 rfl;have z2:wr.cell? ⟨K,2,none⟩=some (.slice A3 2 k3):=RW.q2 rfl;have z3:wr.cell? ⟨K,3,none⟩=some (.slice A4 2 k4):=RW.q3 rfl;have z4:wr.cell? ⟨K,4,none⟩=some (.slice A5 2 k5):=RW.q4 rfl;have z5:wr.cell? ⟨K,5,none⟩=some (.slice A6 2 k6):=RW.q5 rfl;have hd6:=Tx.keep (wx:=wc) (K:=K) ⟨hbr,z0,z1,z2,z3,z4,z5⟩ (ZU (Below.refl _ _));have hbd:=ZU hbr;have q1:(IntKind.i64.wrap 3).tmod 3=0:=(by decide);have q2:(IntKind.i64.wrap 4).tmod 3=1:=(by decide);clear RW;go_wp2_with fail
     go_region_held3 (fun w'=>Below wc.heap.size wc w'/\w'.cell? ⟨K,0,none⟩=some (.slice A1 2 k1)/\w'.cell? ⟨K,1,none⟩=some (.slice A2 2 k2)/\w'.cell? ⟨K,2,none⟩=some (.slice A3 2 k3)/\w'.cell? ⟨K,3,none⟩=some (.slice A4 2 k4)/\w'.cell? ⟨K,4,none⟩=some (.slice A5 2 k5)/\w'.cell? ⟨K,5,none⟩=some (.slice A6 2 k6))
      (first|exact hd6|exact Tx.keep (by assumption) (by assumption)|exact hd6.keep (by assumption))
      (first
        | (go_at_call 249;((with_reducible refine (OD.out _ hbd).mono ?_);rintro e w' ⟨A7,k7,rfl,hb2,hs7⟩))
        | (go_at_call 248;((with_reducible refine (jL.out _ _ _ _ hs7).mono ?_);rintro e w' ⟨A8,k8,rfl,hb3,yO⟩)))
     rename_i w2 Ym
     obtain ⟨w3,hw3⟩:=eE w';subst hw3;clear Ym z0 z1 z2 z3 z4 z5 hd6 q1 q2;have hB3:=Z9 (Z9 hbd hb2) hb3;have RW:=RB.out.step hB3;have z0:w3.cell? ⟨K,0,none⟩=some (.slice A1 2 k1):=RW.q0 rfl;have z1:w3.cell? ⟨K,1,none⟩=some (.slice A2 2 k2):=RW.q1 rfl;have z2:w3.cell? ⟨K,2,none⟩=some (.slice A3 2 k3):=RW.q2 rfl;have z3:w3.cell? ⟨K,3,none⟩=some (.slice A4 2 k4):=RW.q3 rfl;have z4:w3.cell? ⟨K,4,none⟩=some (.slice A5 2 k5):=RW.q4 rfl;have z5:w3.cell? ⟨K,5,none⟩=some (.slice A6 2 k6):=RW.q5 rfl;have hsA:=hide (((hsr.drew.step (w:=wr.drew) hb2).step hb3));have j5:=hide yO;clear RW hbr hbd hs7 yO hsr hb2 hb3;go_wp2_with fail;refine (HN2.out _ hB3).mono ?_;rintro e w4 ⟨A9,k9,rfl,hb4,xu⟩;clear z0 z1 z2 z3 z4 z5;go_wp2_with fail;refine (jL.out _ _ _ _ xu).mono ?_;rintro e w5 ⟨A10,k10,rfl,hb5,Nv⟩;have VT:=hide ((j5.out.step hb4).step hb5);have jR:=hide ((hsA.out.step hb4).step hb5);have qD:=Z9 (Z9 hB3 hb4) hb5;clear j5 hsA hb4 hb5 hB3 xu;have C1:=hide (HMU.out _ _ k10 k8 _ _ _ ql.out.1 ql.out.2 Nv VT.out);clear Nv;go_wp2_with fail;refine C1.out.mono ?_;rintro e w6 ⟨A11,k11,rfl,hb6,Nw⟩;have C2:=hide (HX5.out _ k11 _ _ Nw);clear Nw VT;go_wp2_with fail;refine C2.out.mono ?_;rintro e w7 ⟨A12,k12,rfl,Nr,KJ⟩;have C3:=hide (HAD.out _ _ kc k12 _ _ _ ((jR.out.step hb6).step Nr) KJ);clear KJ jR;go_wp2_with fail;refine C3.out.mono ?_;rintro e w8 ⟨A13,k13,rfl,Sm,FI⟩;have hB8:=Z9 (Z9 (Z9 qD hb6) Nr) Sm;have Bu:=hide FI;clear FI hb6 Nr Sm qD C1 C2 C3;go_wp2;go_roundw
     case rel=>exact ⟨3,A13,k13,by omega,by omega,rfl,rfl,hB8,Bu.out⟩
     case measure=>simp [intOf]
   · have HSR:=hide hsr;clear hsr;go_wp2;go_ret;exact ⟨A,kc,rfl,Z9 Em.out hbr,HSR.out⟩
theorem w5e:(18446744073709551616:Int) ^ 5=2135987035920910082395021706169552114602704522356652769947041607822219725780640550022962086936576:=by decide +kernel
theorem Ul{x y:Int}(h1:-18446744073709551615<=x/\x<=18446744073709551615)(h2:-18446744073709551615<=y/\y<=18446744073709551615):-680564733841876926852962238568698216450<=V9 x y/\V9 x y<=680564733841876926852962238568698216450:=by
 have a:=Vi h1.1 h1.2 h1.1 h1.2;have b:=Vi h2.1 h2.2 h2.1 h2.2;unfold V9;omega
theorem Ia{a b c d:Pt}(ha:PJ a)(hb:PJ b)(hc:PJ c)(hd:PJ d):Fits 5 (YI a b c d):=by
 have a1:=WO ha.1 hd.1;have a2:=WO ha.2 hd.2;have b1:=WO hb.1 hd.1;have b2:=WO hb.2 hd.2;have c1:=WO hc.1 hd.1;have c2:=WO hc.2 hd.2;have p:=Vi (Ul a1 a2).1 (Ul a1 a2).2 (Wv b1 b2 c1 c2).1 (Wv b1 b2 c1 c2).2;have q:=Vi (Ul b1 b2).1 (Ul b1 b2).2 (Wv c1 c2 a1 a2).1 (Wv c1 c2 a1 a2).2;have r:=Vi (Ul c1 c2).1 (Ul c1 c2).2 (Wv a1 a2 b1 b2).1 (Wv a1 a2 b1 b2).2;unfold Fits YI;rw [w5e];omega
theorem Xq(x:Int):x.sign=-1\/x.sign=0\/x.sign=1:=by
 rcases Int.lt_trichotomy x 0 with h|h|h
 · exact .inl (Int.sign_eq_neg_one_of_neg h)
 · subst h;exact .inr (.inl rfl)
 · exact .inr (.inr (Int.sign_eq_one_of_pos h))
theorem UG(x y:Int):IntKind.i64.wrap (x.sign*y.sign)=x.sign*y.sign:=by
 rcases Xq x with h|h|h <;> rcases Xq y with h'|h'|h' <;> rw [h,h'] <;> decide
theorem JD(a b c d:Pt)(ha:PJ a)(hb:PJ b)(hc:PJ c)(hd:PJ d)(w:World)(hw:MW w):
 Calls prog 138 #[.agg #[.int .i64 a.1,.int .i64 a.2],.agg #[.int .i64 b.1,.int .i64 b.2],.agg #[.int .i64 c.1,.int .i64 c.2],.agg #[.int .i64 d.1,.int .i64 d.2]] w fun e w'=>e=.returned (.int .i64 (YI a b c d).sign)/\Below w.heap.size w w':=by
 obtain ⟨w0,hw0⟩:=eE ((((w.alloc (.cells #[.int .i64 a.1,.int .i64 a.2] 41)).alloc (.cells #[.int .i64 b.1,.int .i64 b.2] 41)).alloc (.cells #[.int .i64 c.1,.int .i64 c.2] 41)).alloc (.cells #[.int .i64 d.1,.int .i64 d.2] 41));have hb0:Below w.heap.size w w0:=by rw [hw0];exact Z7 (Z7 (Z7 (bA) _) _) _
 have HV:=hide (rT a b c d ha hb hc hd w0);have HF:=hide (Ia ha hb hc hd);have HW:=hide (hw.step hb0);clear ha hb hc hd hw;go_enter func138,ntmps138;go_wp2_with fail;rw [<- hw0];have HW0:=hide hw0;clear hw0;refine HV.out.mono ?_;rintro e w1 ⟨A1,c1,rfl,hb1,hs1⟩;have hw1:=HW.out.step hb1;have HS:=hide (JY 5 _ HF.out (by omega) (by omega) A1 c1 w1 hs1 hw1.1 hw1.2);clear hs1 hw1;go_wp2_with fail;refine HS.out.mono ?_;rintro e w2 ⟨rfl,hb2⟩;go_wp2;go_ret;exact ⟨rfl,Z9 (Z9 hb0 hb1) hb2⟩
theorem x9(a b c d:Pt)(ha:PJ a)(hb:PJ b)(hc:PJ c)(hd:PJ d)(w:World)(hw:MW w):
 Calls prog 376 #[.agg #[.int .i64 a.1,.int .i64 a.2],.agg #[.int .i64 b.1,.int .i64 b.2],.agg #[.int .i64 c.1,.int .i64 c.2],.agg #[.int .i64 d.1,.int .i64 d.2]] w fun e w'=>e=.returned (.int .i64 ((YI a b c d).sign*(ZM a b c).sign))/\Below w.heap.size w w':=by
 obtain ⟨w0,hw0⟩:=eE ((((w.alloc (.cells #[.int .i64 a.1,.int .i64 a.2] 41)).alloc (.cells #[.int .i64 b.1,.int .i64 b.2] 41)).alloc (.cells #[.int .i64 c.1,.int .i64 c.2] 41)).alloc (.cells #[.int .i64 d.1,.int .i64 d.2] 41));have hb0:Below w.heap.size w w0:=by rw [hw0];exact Z7 (Z7 (Z7 (bA) _) _) _
 have PA:Z6 w0 w.heap.size 41 #[.int .i64 a.1,.int .i64 a.2]:=by rw [hw0];exact (((Z6.new _ _ _).alloc _).alloc _).alloc _
 have PB:Z6 w0 (w.heap.size+1) 41 #[.int .i64 b.1,.int .i64 b.2]:=by rw [hw0];exact ((Z6.new2 _ _ _ _).alloc _).alloc _
 have PC:Z6 w0 (w.heap.size+1+1) 41 #[.int .i64 c.1,.int .i64 c.2]:=by
  rw [hw0];have h:=Z6.new ((w.alloc (.cells #[.int .i64 a.1,.int .i64 a.2] 41)).alloc (.cells #[.int .i64 b.1,.int .i64 b.2] 41)) 41 #[.int .i64 c.1,.int .i64 c.2];have h2:=h.alloc (.cells #[.int .i64 d.1,.int .i64 d.2] 41);simpa using h2
 have jN:Z6 w0 (w.heap.size+1+1+1) 41 #[.int .i64 d.1,.int .i64 d.2]:=by
  rw [hw0];have h:=Z6.new (((w.alloc (.cells #[.int .i64 a.1,.int .i64 a.2] 41)).alloc (.cells #[.int .i64 b.1,.int .i64 b.2] 41)).alloc (.cells #[.int .i64 c.1,.int .i64 c.2] 41)) 41 #[.int .i64 d.1,.int .i64 d.2];simpa using h
 have h00:Zq w0 w.heap.size (w.heap.size+1) (w.heap.size+1+1) (w.heap.size+1+1+1) a.1 a.2 b.1 b.2 c.1 c.2 d.1 d.2 w0:=⟨Below.refl _ _,PA.q0 rfl,PA.q1 rfl,PB.q0 rfl,PB.q1 rfl,PC.q0 rfl,PC.q1 rfl,jN.q0 rfl,jN.q1 rfl⟩;have HC:Hid (∀ wk,Below w0.heap.size w0 wk->Calls prog 138 #[.agg #[.int .i64 a.1,.int .i64 a.2],.agg #[.int .i64 b.1,.int .i64 b.2],.agg #[.int .i64 c.1,.int .i64 c.2],.agg #[.int .i64 d.1,.int .i64 d.2]] wk fun e w'=>e=.returned (.int .i64 (YI a b c d).sign)/\Below wk.heap.size wk w'):=hide fun wk hk=>JD a b c d ha hb hc hd wk ((hw.step hb0).step hk);have HO:Hid (∀ wk,Below w0.heap.size w0 wk->Calls prog 137 #[.agg #[.int .i64 a.1,.int .i64 a.2],.agg #[.int .i64 b.1,.int .i64 b.2],.agg #[.int .i64 c.1,.int .i64 c.2]] wk fun e w'=>e=.returned (.int .i64 (ZM a b c).sign)/\Below wk.heap.size wk w'):=hide fun wk hk=>U9 a b c ha hb hc wk ((hw.step hb0).step hk);have hwr:=UG (YI a b c d) (ZM a b c);clear ha hb hc hd hw PA PB PC jN;generalize hcs:(YI a b c d).sign=cs at *;generalize hos:(ZM a b c).sign=os at *;obtain ⟨a,a'⟩:=a;obtain ⟨b,b'⟩:=b;obtain ⟨c,c'⟩:=c;obtain ⟨d,d'⟩:=d;dsimp only at *;clear hcs hos;have hd0:=h00.keep (ZU (Below.refl _ _));have hbd:=ZU (Below.refl w0.heap.size w0);go_enter func376,ntmps376;go_wp2;rw [<- hw0];have HW0:=hide hw0;clear hw0
 go_region_held3 (fun w'=>Below w0.heap.size w0 w'/\w'.cell? ⟨w.heap.size,0,none⟩=some (.int .i64 a)/\w'.cell? ⟨w.heap.size,1,none⟩=some (.int .i64 a')/\w'.cell? ⟨w.heap.size+1,0,none⟩=some (.int .i64 b)/\w'.cell? ⟨w.heap.size+1,1,none⟩=some (.int .i64 b')/\w'.cell? ⟨w.heap.size+1+1,0,none⟩=some (.int .i64 c)/\w'.cell? ⟨w.heap.size+1+1,1,none⟩=some (.int .i64 c')/\w'.cell? ⟨w.heap.size+1+1+1,0,none⟩=some (.int .i64 d)/\w'.cell? ⟨w.heap.size+1+1+1,1,none⟩=some (.int .i64 d'))
  (first|with_reducible exact hd0|with_reducible exact h00|with_reducible exact Zq.keep (by assumption) (by assumption)|with_reducible exact hd0.keep (by assumption))
  (first
    | (go_at_call 138;((with_reducible refine (HC.out _ (by first|with_reducible exact hbd|with_reducible exact Z9 hbd hb2)).mono ?_);rintro e w' ⟨rfl,hb1⟩))
    | (go_at_call 137;((with_reducible refine (HO.out _ (by first|with_reducible exact hbd|with_reducible exact Z9 hbd hb1)).mono ?_);rintro e w' ⟨rfl,hb2⟩)))
 all_goals
  go_wp2;go_ret
  first|exact ⟨rfl,Z9 (Z9 (ZU hb0) hb1) hb2⟩|exact ⟨rfl,Z9 (Z9 (ZU hb0) hb2) hb1⟩
end
section
open Go.RowKit
section
variable {F:Fence}{n:Nat}{P:Program}{ops:Array Oper}{Q:Exit->Act->World->Prop}{md:Region.Mode}{S:World->Prop}
def Rw(ops:Array Oper):Prop:=∀ (j:Nat) (o:Oper),ops[j]?=some o->∀ c,o.op≠.defer c
def Aq(o:Oper):Bool:=match o.op with | .defer _=>true|_=>false
theorem Dk{ops:Array Oper}(h:ops.toList.all (fun o=>!Aq o)=true):Rw ops:=fun j o hj c hc=>by
 have hm:o∈ops.toList:=by
  have:=Array.mem_of_getElem? hj;simpa using this
 have:=List.all_eq_true.1 h o hm;simp [Aq,hc] at this
def Yk(P:Program)(ops:Array Oper)(S:World->Prop)(o:Oper)(v:Value)(a:Act):Prop:=YieldsIf P ops S o v a/\∀ w,o.about P w a.eval=none
theorem Yk.wpOpIn {i:Nat} {o:Oper} {v:Value} {a:Act} (hnd:Rw ops) (hi:ops[i]?=some o) (hy:Yk P ops S o v a)
 {K:Act->World->Prop} {w:World} (hS:S w) (h:K (a.put o.dst v) w):wpOpIn F n P ops Q i K a w:=by
 unfold Go.wpOpIn;simp only [hi];have hab:∀ f,o.about P w a.eval=some f->F.fn f:=fun f hf=>by rw [hy.2 w] at hf;cases hf
 rcases hy.1 with ⟨hw,hv⟩|⟨hw,rfl⟩
 · simp only [hw,if_true,Oper.wpIn,Oper.semAt_plain F _ _ (hnd i o hi),hv w hS,Oper.uponIn];exact ⟨hab,h⟩
 · simp only [hw,Bool.false_eq_true,if_false];exact ⟨hab,h⟩
theorem Yk.of_same {o:Oper} {v:Value} {a a':Act} (hy:Yk P ops S o v a) (he:execOp a'.eval o=execOp a.eval o)
 (hw:Region.wanted o (yielded ops a'.tmps)=Region.wanted o (yielded ops a.tmps)) (hb:∀ w,o.about P w a'.eval=o.about P w a.eval):Yk P ops S o v a' :=
 ⟨hy.1.of_same he hw,fun w=>by rw [hb w];exact hy.2 w⟩
theorem GY {j:Nat} {oi oj:Oper} {v:Value} (hnd:Rw ops) (hj:ops[j]?=some oj) (hap:oi.apart ops oj=true)
 (hsi:∀ cs b,oi.op≠.select cs b) (hsj:∀ cs b,oj.op≠.select cs b)
 (hQ:∀ c a w,Q (.panic c) (a.put oi.dst v) w->Q (.panic c) a w) {K:Act->World->Prop} {a:Act} {w:World}
 (hy:Yk P ops S oi v a) (h:wpOpIn F n P ops Q j K (a.put oi.dst v) w) :
 wpOpIn F n P ops Q j (fun a' w'=>Yk P ops S oi v a'/\K (a'.put oi.dst v) w') a w:=by
 obtain ⟨h1,h2,h3⟩:=Oper.apart_spec hap;have keep:∀ (a:Act),Yk P ops S oi v a->∀ u,Yk P ops S oi v (a.put oj.dst u):=fun a hy u =>
  hy.of_same (execOp_put oi hsi a oj.dst u h3) (wanted_put oi a oj.dst u h3) (fun w=>about_put oi w a oj.dst u h3)
 have keepD:∀ d,Yk P ops S oi v { a with defers:=d::a.defers }:=fun d=>hy.of_same rfl rfl (fun _=>rfl);have zue:∀ ρ,oj.semAt F.round ρ=execOp ρ oj:=fun ρ=>Oper.semAt_plain F ρ oj (hnd j oj hj);unfold wpOpIn at *;simp only [hj] at *;rw [wanted_put oj a oi.dst v h1,about_put oj w a oi.dst v h1] at h;split
 · rename_i hw
   simp only [hw,if_true] at h;unfold Oper.wpIn at *;rw [about_put oj w a oi.dst v h1] at h;refine ⟨h.1,?_⟩;have h:=h.2;rw [zue,execOp_put oj hsj a oi.dst v h1] at h;rw [zue];generalize (execOp a.eval oj).run P w=r at *;cases r with
   | ok x w' =>
     cases x <;> simp only [Oper.uponIn] at h ⊢
     case value u=>exact ⟨keep a hy u,by rw [<- Act.put_comm a v u h2];exact h⟩
     case skip=>exact ⟨keep a hy _,by rw [<- Act.put_comm a v undef h2];exact h⟩
     case defer d =>
      refine ⟨keep _ (keepD d) _,?_⟩;rw [<- Act.put_comm _ v undef h2,<- Act.put_defers];exact h
     case enter f args =>
      refine ⟨h.1,CallsIn.mono h.2 fun e w'' he=>?_⟩;cases e with
      | returned u=>exact ⟨keep a hy u,by rw [<- Act.put_comm a v u h2];exact he⟩
      | panicked c=>exact hQ _ _ _ he
      | outgrown=>exact he
     case row row args=>exact ⟨h.1,RowsIn.mono h.2 fun u w'' he=>⟨keep a hy u,by rw [<- Act.put_comm a v u h2];exact he⟩⟩
     case round l f tmps assign body =>
      refine ⟨h.1,RoundIn.mono h.2 fun e w'' he=>?_⟩;cases e with
      | returned u=>exact ⟨keep a hy u,by rw [<- Act.put_comm a v u h2];exact he⟩
      | panicked c=>exact hQ _ _ _ he
      | outgrown=>exact he
   | halt x w' =>
     cases x <;> simp only [Oper.uponIn] at h ⊢
     case panic u=>exact hQ _ _ _ h
 · rename_i hw
   simp only [hw] at h;exact ⟨h.1,keep a hy _,by rw [<- Act.put_comm a v undef h2];exact h.2⟩
def waits(md:Region.Mode)(ops:Array Oper)(sk i:Nat):Bool:=match ops[sk]? with|none=>true|some o=>o.after.toList.any (fun e=>Region.binds md e && e.on == i)
theorem El{sk i:Nat}{o:Oper}(h:waits md ops sk i=true)(ho:ops[sk]?=some o):∃ e∈o.after,Region.binds md e=true/\e.on=i:=by
 unfold waits at h;rw [ho] at h;obtain ⟨e,he,hb⟩:=List.any_eq_true.1 h;exact ⟨e,by simpa using he,by simpa using hb⟩
def YP(F:Fence)(n:Nat)(P:Program)(md:Region.Mode)(ops:Array Oper)(Q:Exit->Act->World->Prop)(S:World->Prop)(sk:Nat):Nat->Array Bool->Act->World->Prop
 | 0,listed,a,w=>Region.ready md ops listed=[]/\Q .normal a w
 | fuel+1,listed,a,w =>
   (Region.ready md ops listed=[]->Q .normal a w) /\
   ∀ i∈Region.ready md ops listed,wpOpIn F n P ops Q i (fun a' w'=>(i≠sk->S w')/\YP F n P md ops Q S sk fuel (listed.setIfInBounds i true) a' w') a w
theorem Tw{sk:Nat}:∀ (fuel:Nat) (listed:Array Bool) (a:Act) (w:World),YP F n P md ops Q S sk fuel listed a w->wpAnyIn F n P md ops Q fuel listed a w
 | 0,_,_,_,h=>h
 | fuel+1,_,_,_,h=>⟨h.1,fun i hi=>wpOpIn_mono (fun a' w' h'=>Tw fuel _ a' w' h'.2) (h.2 i hi)⟩
theorem MO {i sk:Nat} {oi:Oper} {v:Value} (hnd:Rw ops) (hi:ops[i]?=some oi) (hsel:∀ (j:Nat) (o:Oper) cs b,ops[j]?=some o->o.op≠.select cs b)
 (hQ:∀ c a w,Q (.panic c) (a.put oi.dst v) w->Q (.panic c) a w) (hsk:waits md ops sk i=true) :
 ∀ (fuel:Nat) (listed:Array Bool) (a:Act) (w:World),
   (∀ j oj,ops[j]?=some oj->j≠i->listed.getD j true=false->(∀ e∈oj.after,Region.binds md e=true->e.on≠i)->oi.apart ops oj=true) ->
   i∈Region.ready md ops listed->Yk P ops S oi v a->S w ->
   YP F n P md ops Q S sk fuel (listed.setIfInBounds i true) (a.put oi.dst v) w->YP F n P md ops Q S sk (fuel+1) listed a w:=by
 intro fuel
 induction fuel with
 | zero =>
   intro listed a w _ hr hy hS H;refine ⟨fun h=>(by rw [h] at hr;cases hr),fun j hj=>?_⟩
   by_cases hji:j=i
   · subst hji;exact hy.wpOpIn hnd hi hS ⟨fun _=>hS,H⟩
   · have:=ready_mono hj hji;rw [H.1] at this;cases this
 | succ fuel ih =>
   intro listed a w hfree hr hy hS H;refine ⟨fun h=>(by rw [h] at hr;cases hr),fun j hj=>?_⟩
   by_cases hji:j=i
   · subst hji;exact hy.wpOpIn hnd hi hS ⟨fun _=>hS,H⟩
   · have h1:=H.2 j (ready_mono hj hji);obtain ⟨hjun,oj,hoj,hall⟩:=mem_ready.1 hj
     have hnot:∀ e∈oj.after,Region.binds md e=true->e.on≠i:=fun e he hb heq=>by
      have h1:=hall e he hb;have h0:=(mem_ready.1 hr).1;rw [heq] at h1;rcases Nat.lt_or_ge i listed.size with h'|h'
      · simp [h'] at h0 h1;rw [h0] at h1;cases h1
      · simp [Array.getElem?_eq_none h'] at h1
     have h2:=GY hnd hoj (hfree j oj hoj hji hjun hnot) (fun cs b=>hsel i oi cs b hi) (fun cs b=>hsel j oj cs b hoj) hQ hy h1
     have hfree':∀ k ok,ops[k]?=some ok->k≠i->(listed.setIfInBounds j true).getD k true=false ->
      (∀ e∈ok.after,Region.binds md e=true->e.on≠i)->oi.apart ops ok=true:=fun k ok hk hki hun hno=>by
      refine hfree k ok hk hki ?_ hno
      by_cases hjk:j=k
      · subst hjk;exact hjun
      · rw [getD_set_ne true hjk] at hun;exact hun
     have hjs:j≠sk:=fun e=>by
      subst e;obtain ⟨e,he,hb,hon⟩:=El hsk hoj;exact hnot e he hb hon
     refine wpOpIn_mono (fun a' w' h3=>⟨h3.2.1,ih (listed.setIfInBounds j true) a' w' hfree' (ready_mono hr (Ne.symm hji)) h3.1 (h3.2.1 hjs) ?_⟩) h2;rw [Array.setIfInBounds_comm _ _ hji];exact h3.2.2
theorem zyi {i sk:Nat} {oi:Oper} {v:Value} {fuel:Nat} {listed:Array Bool} {a:Act} {w:World} (hnd:Rw ops) (hi:ops[i]?=some oi)
 (hs:Region.noSelect ops=true) (hf:Region.free md ops listed i=true) (hr:(Region.ready md ops listed).contains i=true)
 (hQ:∀ c a w,Q (.panic c) (a.put oi.dst v) w->Q (.panic c) a w) (hsk:waits md ops sk i=true) (hy:Yk P ops S oi v a) (hS:S w)
 (h:YP F n P md ops Q S sk fuel (listed.setIfInBounds i true) (a.put oi.dst v) w):YP F n P md ops Q S sk (fuel+1) listed a w :=
 MO hnd hi (Region.noSelect_spec hs) hQ hsk fuel listed a w (Region.free_spec hi hf) (by simpa using hr) hy hS h
theorem ZV{i sk:Nat}{oi:Oper}{v:Value}{fuel:Nat}{listed:Array Bool}{a:Act}{w:World}(hi:ops[i]?=some oi)(hy:∀ w,S w->(execOp a.eval oi).run P w=.ok (.value v) w)(hS:S w)(h:YP F n P md ops Q S sk fuel (listed.setIfInBounds i true) (a.put oi.dst v) w)(hnd:Rw ops:=by exact Dk (by kernel_rfl))(hs:Region.noSelect ops=true:=by kernel_rfl)(hf:Region.free md ops listed i=true:=by kernel_rfl)(hr:(Region.ready md ops listed).contains i=true:=by kernel_rfl)(hQ:∀ c a w,Q (.panic c) (a.put oi.dst v) w->Q (.panic c) a w:=by exact fun _ _ _ h=>h)(hsk:waits md ops sk i=true:=by kernel_rfl)(hw:Region.wanted oi (yielded ops a.tmps)=true:=by rfl)(hab:∀ w,oi.about P w a.eval=none:=by exact fun _=>rfl):YP F n P md ops Q S sk (fuel+1) listed a w:=
 zyi hnd hi hs hf hr hQ hsk ⟨.inl ⟨hw,hy⟩,hab⟩ hS h
theorem Yj {i sk:Nat} {o:Oper} {fuel:Nat} {listed:Array Bool} {a:Act} {w:World} (hr:Region.ready md ops listed=[i]) (ho:ops[i]?=some o)
 (h:∀ K:Act->World->Prop,Shut (∀ a w,(i≠sk->S w)->YP F n P md ops Q S sk fuel (listed.setIfInBounds i true) a w->K a w)->if Region.wanted o (yielded ops a.tmps)=true then Oper.wpIn F n P o a w K Q else (∀ f,o.about P w a.eval=some f->F.fn f)/\K (a.put o.dst undef) w) :
 YP F n P md ops Q S sk (fuel+1) listed a w :=
 ⟨fun h0=>(by rw [hr] at h0;cases h0),fun j hj=>by
   rw [hr] at hj;obtain rfl:j=i:=by simpa using hj
   exact wpOpIn_step ho (fun K' hK=>h K' (fun a w hS hW=>hK a w ⟨hS,hW⟩))⟩
theorem WI{sk:Nat}{listed:Array Bool}{a:Act}{w:World}(hr:Region.ready md ops listed=[])(h:Q .normal a w):
 ∀ fuel,YP F n P md ops Q S sk fuel listed a w
 | 0=>⟨hr,h⟩
 | _+1=>⟨fun _=>h,by rw [hr];simp⟩
theorem Xy (sk:Nat) {id:Nat} {a:Act} {w:World} (hm:P.follows .mixedOrders=true)
 (h:YP F n P .any ops Q S sk ops.size (Array.replicate ops.size false) a w.drew):(Code.region id ops true).wpIn F n P Q a w :=
 wpIn_region_any hm (Tw _ _ _ _ h)
end
end
end Go.Proofs.YthnenedoblncjaaGreatDoor