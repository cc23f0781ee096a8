/- Circle2 -/
import Derived.Deep.DeepCutAuto
import Derived.Test.YthnenedoblncjaaGreatDoorPkN12
set_option maxRecDepth 1000000
set_option maxHeartbeats 8000000
namespace Go.Proofs.YthnenedoblncjaaGreatDoor
open Go.Proofs.Tryz
section
open Go.RowKit
theorem IG(x y:Int)(fx:Fits 2 x)(fy:Fits 2 y)(A1 A2:Option Addr)(c1 c2:Nat)(w:World)(h1:Sl w w.heap.size A1 (ZP (ZX 2 x)))(h2:Sl w w.heap.size A2 (ZP (ZX 2 y))):
 Calls prog 252 #[.agg #[.slice A1 2 c1,.slice A2 2 c2]] w (Zz 4 (x*x+y*y) w):=by
 obtain ⟨w0,hw0⟩:=eE (w.alloc (.cells #[.slice A1 2 c1,.slice A2 2 c2] 284));have hb0:=bE hw0;have hz:=hb0.size;have HP:=hide (D5 x y x y fx fy fx fy A1 A2 A1 A2 c1 c2 c1 c2 w0 ((h1.below hb0).more hz) ((h2.below hb0).more hz) ((h1.below hb0).more hz) ((h2.below hb0).more hz));clear h1 h2 fx fy;go_enter func252,ntmps252;go_wp2_with fail;rw [<- hw0];have HW0:=hide hw0;clear hw0;refine HP.out.mono ?_;rintro e w1 ⟨A5,c5,rfl,hb1,hs⟩;go_wp2;go_ret;exact ⟨A5,c5,rfl,Z8 hb0 hb1,hs⟩
theorem Sk{wk w':World}{cs:Array Value}{t:TypeId}(hb:Below (wk.alloc (.cells cs t)).heap.size (wk.alloc (.cells cs t)) w'):Z6 w' wk.heap.size t cs:=(Z6.new wk t cs).step hb
theorem Ua{wk w':World}{cs:Array Value}{t:TypeId}(hb:Below (wk.alloc (.cells cs t)).drew.heap.size (wk.alloc (.cells cs t)).drew w'):Z6 w' wk.heap.size t cs:=(show Z6 (wk.alloc (.cells cs t)).drew wk.heap.size t cs from Z6.new wk t cs).step hb
abbrev Zq(w0:World)(b1 b2 b3 b4:Nat)(x1 y1 x2 y2 x3 y3 x4 y4:Int)(w':World):Prop :=
 Below w0.heap.size w0 w'/\w'.cell? ⟨b1,0,none⟩=some (.int .i64 x1)/\w'.cell? ⟨b1,1,none⟩=some (.int .i64 y1)/\w'.cell? ⟨b2,0,none⟩=some (.int .i64 x2)/\w'.cell? ⟨b2,1,none⟩=some (.int .i64 y2)/\w'.cell? ⟨b3,0,none⟩=some (.int .i64 x3)/\w'.cell? ⟨b3,1,none⟩=some (.int .i64 y3)/\w'.cell? ⟨b4,0,none⟩=some (.int .i64 x4)/\w'.cell? ⟨b4,1,none⟩=some (.int .i64 y4)
theorem Zq.keep{w0 wk w':World}{b1 b2 b3 b4:Nat}{x1 y1 x2 y2 x3 y3 x4 y4:Int}(h:Zq w0 b1 b2 b3 b4 x1 y1 x2 y2 x3 y3 x4 y4 wk)(hb:Below wk.heap.size wk w'):Zq w0 b1 b2 b3 b4 x1 y1 x2 y2 x3 y3 x4 y4 w':=by
 have on:∀ {b o:Nat} {v:Value},wk.cell? ⟨b,o,none⟩=some v->w'.cell? ⟨b,o,none⟩=some v:=fun h=>(hb.cell (p:=⟨_,_,none⟩) (ZG h)).trans h;obtain ⟨h0,h1,h2,h3,h4,h5,h6,h7,h8⟩:=h;exact ⟨Z8 h0 hb,on h1,on h2,on h3,on h4,on h5,on h6,on h7,on h8⟩
theorem Zq.set{w0 wk:World}{b1 b2 b3 b4:Nat}{x1 y1 x2 y2 x3 y3 x4 y4:Int}(hl:b1<w0.heap.size/\b2<w0.heap.size/\b3<w0.heap.size/\b4<w0.heap.size)(h:Zq w0 b1 b2 b3 b4 x1 y1 x2 y2 x3 y3 x4 y4 wk){K:Nat}(hK:w0.heap.size<=K)(o:Nat)(u:Value):
 Zq w0 b1 b2 b3 b4 x1 y1 x2 y2 x3 y3 x4 y4 (wk.setCell ⟨K,o,none⟩ u):=by
 have on:∀ {b o':Nat} {v:Value},b<w0.heap.size->wk.cell? ⟨b,o',none⟩=some v->(wk.setCell ⟨K,o,none⟩ u).cell? ⟨b,o',none⟩=some v:=fun hb h=>by
  rw [World.cell?_of_block (Below.heap_setCell wk ⟨K,o,none⟩ u _ (by dsimp only;omega))];exact h
 obtain ⟨h0,h1,h2,h3,h4,h5,h6,h7,h8⟩:=h;exact ⟨h0.setCell hK u,on hl.1 h1,on hl.1 h2,on hl.2.1 h3,on hl.2.1 h4,on hl.2.2.1 h5,on hl.2.2.1 h6,on hl.2.2.2 h7,on hl.2.2.2 h8⟩
theorem Zq.pq{w0 wk:World}{b1 b2 b3 b4:Nat}{x1 y1 x2 y2 x3 y3 x4 y4:Int}(hl:b1<w0.heap.size/\b2<w0.heap.size/\b3<w0.heap.size/\b4<w0.heap.size)(h:Zq w0 b1 b2 b3 b4 x1 y1 x2 y2 x3 y3 x4 y4 wk){K:Nat}(hK:w0.heap.size<=K)(u0 u1 u2 u3 u4 u5:Value):
 Zq w0 b1 b2 b3 b4 x1 y1 x2 y2 x3 y3 x4 y4 ((((((wk.setCell ⟨K,0,none⟩ u0).setCell ⟨K,1,none⟩ u1).setCell ⟨K,2,none⟩ u2).setCell ⟨K,3,none⟩ u3).setCell ⟨K,4,none⟩ u4).setCell ⟨K,5,none⟩ u5):=by
 have st:∀ (w1:World) (o:Nat) (u:Value),Zq w0 b1 b2 b3 b4 x1 y1 x2 y2 x3 y3 x4 y4 w1->Zq w0 b1 b2 b3 b4 x1 y1 x2 y2 x3 y3 x4 y4 (w1.setCell ⟨K,o,none⟩ u):=fun w1 o u h=>Zq.set hl h hK o u;exact st _ _ _ (st _ _ _ (st _ _ _ (st _ _ _ (st _ _ _ (st _ _ _ h)))))
theorem Zq.Fj{w0 wk:World}{b1 b2 b3 b4:Nat}{x1 y1 x2 y2 x3 y3 x4 y4:Int}(hl:b1<w0.heap.size/\b2<w0.heap.size/\b3<w0.heap.size/\b4<w0.heap.size){X Y:Obj}(h:Zq w0 b1 b2 b3 b4 x1 y1 x2 y2 x3 y3 x4 y4 (wk.alloc Y))(hz:w0.heap.size<=wk.heap.size):
 Zq w0 b1 b2 b3 b4 x1 y1 x2 y2 x3 y3 x4 y4 (wk.alloc X):=by
 have hx:∀ k,k<w0.heap.size->(wk.alloc X).heap[k]?=(wk.alloc Y).heap[k]?:=fun k hk =>
  ((ZY (Below.refl wk.heap.size wk) X).block k (Nat.lt_of_lt_of_le hk hz)).trans ((ZY (Below.refl wk.heap.size wk) Y).block k (Nat.lt_of_lt_of_le hk hz)).symm
 have on:∀ {b o:Nat} {v:Value},b<w0.heap.size->(wk.alloc Y).cell? ⟨b,o,none⟩=some v->(wk.alloc X).cell? ⟨b,o,none⟩=some v:=fun hb h=>by
  rw [World.cell?_of_block (hx _ hb)];exact h
 obtain ⟨h0,h1,h2,h3,h4,h5,h6,h7,h8⟩:=h;have h0':Below w0.heap.size w0 (wk.alloc X):=⟨h0.os,h0.tape,h0.output,by have:=h0.size;simpa using this,fun k hk=>(hx k hk).trans (h0.block k hk)⟩;exact ⟨h0',on hl.1 h1,on hl.1 h2,on hl.2.1 h3,on hl.2.1 h4,on hl.2.2.1 h5,on hl.2.2.1 h6,on hl.2.2.2 h7,on hl.2.2.2 h8⟩
def YB(x y:Int):Int:=x*x+y*y
def YF(a b c d:Pt):Int :=
 0+YB (a.1 - d.1) (a.2 - d.2)*Y6 (b.1 - d.1) (b.2 - d.2) (c.1 - d.1) (c.2 - d.2)
  + YB (b.1 - d.1) (b.2 - d.2)*Y6 (c.1 - d.1) (c.2 - d.2) (a.1 - d.1) (a.2 - d.2)
  + YB (c.1 - d.1) (c.2 - d.2)*Y6 (a.1 - d.1) (a.2 - d.2) (b.1 - d.1) (b.2 - d.2)
def o8(t0 t1 t2:Int):Nat->Int
 | 0=>0
 | 1=>0+t0
 | 2=>0+t0+t1
 | _=>0+t0+t1+t2
theorem V9{ux uy vx vy:Int}(h1:-18446744073709551615<=ux/\ux<=18446744073709551615)(h2:-18446744073709551615<=uy/\uy<=18446744073709551615)(h3:-18446744073709551615<=vx/\vx<=18446744073709551615)(h4:-18446744073709551615<=vy/\vy<=18446744073709551615):Fits 3 (Y6 ux uy vx vy):=by
 have h:=YH h1 h2 h3 h4;unfold Fits;rw [pG];omega
theorem Vp{x y:Int}(h1:-18446744073709551615<=x/\x<=18446744073709551615)(h2:-18446744073709551615<=y/\y<=18446744073709551615):Fits 3 (YB x y):=by
 have a:=Ya h1.1 h1.2 h1.1 h1.2;have b:=Ya h2.1 h2.2 h2.1 h2.2;unfold Fits YB;rw [pG];omega
def WO(wx:World)(K:Nat)(v0 v1 v2 v3 v4 v5:Value)(w':World):Prop :=
 Below wx.heap.size wx w'/\w'.cell? ⟨K,0,none⟩=some v0/\w'.cell? ⟨K,1,none⟩=some v1/\w'.cell? ⟨K,2,none⟩=some v2/\w'.cell? ⟨K,3,none⟩=some v3/\w'.cell? ⟨K,4,none⟩=some v4/\w'.cell? ⟨K,5,none⟩=some v5
theorem WO.keep{wx wk w':World}{K:Nat}{v0 v1 v2 v3 v4 v5:Value}(h:WO wx K v0 v1 v2 v3 v4 v5 wk)(hb:Below wk.heap.size wk w'):WO wx K v0 v1 v2 v3 v4 v5 w':=by
 have on:∀ {b o:Nat} {v:Value},wk.cell? ⟨b,o,none⟩=some v->w'.cell? ⟨b,o,none⟩=some v:=fun h=>(hb.cell (p:=⟨_,_,none⟩) (ZG h)).trans h;obtain ⟨h0,h1,h2,h3,h4,h5,h6⟩:=h;exact ⟨Z8 h0 hb,on h1,on h2,on h3,on h4,on h5,on h6⟩
theorem Sl.step{w w':World}{A:Option Addr}{xs:List Value}(h:Sl w w.heap.size A xs)(hb:Below w.heap.size w w'):Sl w' w'.heap.size A xs:=(h.below hb).more hb.size
theorem Sl.RJ{w w':World}{A:Option Addr}{xs:List Value}{o:Obj}(h:Sl w w.heap.size A xs)(hb:Below (w.alloc o).heap.size (w.alloc o) w'):Sl w' w'.heap.size A xs :=
 (h.step (ZY (Below.refl _ _) o)).step hb
theorem xK {w:World} {B g:Nat} {A:Option Addr} {l:List Int} {x:Addr} {t:TypeId} (h:Sl w B A (ZP l)) (hl:0<l.length) (hA:A=some x) {v0 v1 v2 v3 v4 v5:Option Addr × Nat × Nat}
 (hb:Z6 w g t #[.slice v0.1 v0.2.1 v0.2.2,.slice v1.1 v1.2.1 v1.2.2,.slice v2.1 v2.2.1 v2.2.2,.slice v3.1 v3.2.1 v3.2.2,.slice v4.1 v4.2.1 v4.2.2,.slice v5.1 v5.2.1 v5.2.2]):x.block≠g:=by
 rintro rfl;obtain ⟨b,off,hA',_,hc⟩:=h.u hl;rw [hA'] at hA;cases hA;obtain ⟨y,hy⟩:∃ y,l[0]?=some y:=⟨_,List.getElem?_eq_getElem hl⟩;have c0:=hc 0 y hy;have hcell:=cell_of_row w b (off+0) _ t (0,0) hb;rw [c0] at hcell;generalize off+0=i at hcell
 match i,hcell with
 | 0,h=>simp at h
 | 1,h=>simp at h
 | 2,h=>simp at h
 | 3,h=>simp at h
 | 4,h=>simp at h
 | 5,h=>simp at h
 | i+6,h=>simp at h
theorem Sl.six {w:World} {B K:Nat} {A:Option Addr} {l:List Int} {t:TypeId} (h:Sl w B A (ZP l)) (hl:0<l.length)
 (hb:Z6 w K t #[.slice none 0 0,.slice none 0 0,.slice none 0 0,.slice none 0 0,.slice none 0 0,.slice none 0 0]) (u0 u1 u2 u3 u4 u5:Value) :
 Sl ((((((w.setCell ⟨K,0,none⟩ u0).setCell ⟨K,1,none⟩ u1).setCell ⟨K,2,none⟩ u2).setCell ⟨K,3,none⟩ u3).setCell ⟨K,4,none⟩ u4).setCell ⟨K,5,none⟩ u5) B A (ZP l):=by
 have hne:∀ (x:Addr),A=some x->x.block≠K:=fun x hx=>xK (v0:=(none,0,0)) (v1:=(none,0,0)) (v2:=(none,0,0)) (v3:=(none,0,0)) (v4:=(none,0,0)) (v5:=(none,0,0)) h hl hx hb;exact (((((h.far (p:=⟨K,0,none⟩) (fun _ z hz=>hne z hz) u0).far (p:=⟨K,1,none⟩) (fun _ z hz=>hne z hz) u1).far (p:=⟨K,2,none⟩) (fun _ z hz=>hne z hz) u2).far (p:=⟨K,3,none⟩) (fun _ z hz=>hne z hz) u3).far (p:=⟨K,4,none⟩) (fun _ z hz=>hne z hz) u4).far (p:=⟨K,5,none⟩) (fun _ z hz=>hne z hz) u5
theorem DT {w:World} {K:Nat} {t:TypeId}
 (hb:Z6 w K t #[.slice none 0 0,.slice none 0 0,.slice none 0 0,.slice none 0 0,.slice none 0 0,.slice none 0 0]) (u0 u1 u2 u3 u4 u5:Value) :
 Z6 ((((((w.setCell ⟨K,0,none⟩ u0).setCell ⟨K,1,none⟩ u1).setCell ⟨K,2,none⟩ u2).setCell ⟨K,3,none⟩ u3).setCell ⟨K,4,none⟩ u4).setCell ⟨K,5,none⟩ u5) K t #[u0,u1,u2,u3,u4,u5] :=
 (((((hb.set 0 u0).set 1 u1).set 2 u2).set 3 u3).set 4 u4).set 5 u5
def Laid6(w0 wx:World)(u:Value)(xa ya xb yb xc yc:Int):Prop :=
 ∃ (K:Nat) (A1 A2 A3 A4 A5 A6:Option Addr) (k1 k2 k3 k4 k5 k6:Nat),u=.pointer (some ⟨K,0,none⟩)/\Below w0.heap.size w0 wx/\Z6 wx K 286 #[.slice A1 2 k1,.slice A2 2 k2,.slice A3 2 k3,.slice A4 2 k4,.slice A5 2 k5,.slice A6 2 k6] /\
  (Sl wx wx.heap.size A1 (ZP (ZX 2 xa))/\Sl wx wx.heap.size A2 (ZP (ZX 2 ya)))/\(Sl wx wx.heap.size A3 (ZP (ZX 2 xb))/\Sl wx wx.heap.size A4 (ZP (ZX 2 yb)))/\(Sl wx wx.heap.size A5 (ZP (ZX 2 xc))/\Sl wx wx.heap.size A6 (ZP (ZX 2 yc)))
theorem QD {w0 w:World} {K:Nat} {xa ya xb yb xc yc:Int} {A1 A2 A3 A4 A5 A6:Option Addr} {k1 k2 k3 k4 k5 k6:Nat}
 (hb:Z6 w K 286 #[.slice none 0 0,.slice none 0 0,.slice none 0 0,.slice none 0 0,.slice none 0 0,.slice none 0 0])
 (hB:Below w0.heap.size w0 ((((((w.setCell ⟨K,0,none⟩ (.slice A1 2 k1)).setCell ⟨K,1,none⟩ (.slice A2 2 k2)).setCell ⟨K,2,none⟩ (.slice A3 2 k3)).setCell ⟨K,3,none⟩ (.slice A4 2 k4)).setCell ⟨K,4,none⟩ (.slice A5 2 k5)).setCell ⟨K,5,none⟩ (.slice A6 2 k6)))
 (h1:Sl w w.heap.size A1 (ZP (ZX 2 xa))) (h2:Sl w w.heap.size A2 (ZP (ZX 2 ya))) (h3:Sl w w.heap.size A3 (ZP (ZX 2 xb))) (h4:Sl w w.heap.size A4 (ZP (ZX 2 yb))) (h5:Sl w w.heap.size A5 (ZP (ZX 2 xc))) (h6:Sl w w.heap.size A6 (ZP (ZX 2 yc))) :
 Laid6 w0 ((((((w.setCell ⟨K,0,none⟩ (.slice A1 2 k1)).setCell ⟨K,1,none⟩ (.slice A2 2 k2)).setCell ⟨K,2,none⟩ (.slice A3 2 k3)).setCell ⟨K,3,none⟩ (.slice A4 2 k4)).setCell ⟨K,4,none⟩ (.slice A5 2 k5)).setCell ⟨K,5,none⟩ (.slice A6 2 k6)) (.pointer (some ⟨K,0,none⟩)) xa ya xb yb xc yc:=by
 have hl:∀ z,0<(ZX 2 z).length:=fun z=>by rw [Z0];omega
 have six:∀ {A:Option Addr} {z:Int},Sl w w.heap.size A (ZP (ZX 2 z))->Sl ((((((w.setCell ⟨K,0,none⟩ (.slice A1 2 k1)).setCell ⟨K,1,none⟩ (.slice A2 2 k2)).setCell ⟨K,2,none⟩ (.slice A3 2 k3)).setCell ⟨K,3,none⟩ (.slice A4 2 k4)).setCell ⟨K,4,none⟩ (.slice A5 2 k5)).setCell ⟨K,5,none⟩ (.slice A6 2 k6)) ((((((w.setCell ⟨K,0,none⟩ (.slice A1 2 k1)).setCell ⟨K,1,none⟩ (.slice A2 2 k2)).setCell ⟨K,2,none⟩ (.slice A3 2 k3)).setCell ⟨K,3,none⟩ (.slice A4 2 k4)).setCell ⟨K,4,none⟩ (.slice A5 2 k5)).setCell ⟨K,5,none⟩ (.slice A6 2 k6)).heap.size A (ZP (ZX 2 z)):=fun h=>by
  have h':=h.six (hl _) hb (.slice A1 2 k1) (.slice A2 2 k2) (.slice A3 2 k3) (.slice A4 2 k4) (.slice A5 2 k5) (.slice A6 2 k6);simpa only [World.size_setCell] using h'
 exact ⟨K,A1,A2,A3,A4,A5,A6,k1,k2,k3,k4,k5,k6,rfl,hB,DT hb _ _ _ _ _ _,⟨six h1,six h2⟩,⟨six h3,six h4⟩,⟨six h5,six h6⟩⟩
theorem Nc {w0 w:World} {xa ya xb yb xc yc:Int} {A1 A2 A3 A4 A5 A6:Option Addr} {k1 k2 k3 k4 k5 k6:Nat}
 (hB:Below w0.heap.size w0 (w.alloc (.cells #[.slice A1 2 k1,.slice A2 2 k2,.slice A3 2 k3,.slice A4 2 k4,.slice A5 2 k5,.slice A6 2 k6] 286)))
 (h1:Sl w w.heap.size A1 (ZP (ZX 2 xa))) (h2:Sl w w.heap.size A2 (ZP (ZX 2 ya))) (h3:Sl w w.heap.size A3 (ZP (ZX 2 xb))) (h4:Sl w w.heap.size A4 (ZP (ZX 2 yb))) (h5:Sl w w.heap.size A5 (ZP (ZX 2 xc))) (h6:Sl w w.heap.size A6 (ZP (ZX 2 yc))) :
 Laid6 w0 (w.alloc (.cells #[.slice A1 2 k1,.slice A2 2 k2,.slice A3 2 k3,.slice A4 2 k4,.slice A5 2 k5,.slice A6 2 k6] 286)) (.pointer (some ⟨w.heap.size,0,none⟩)) xa ya xb yb xc yc :=
 have al:=ZY (Below.refl w.heap.size w) (.cells #[.slice A1 2 k1,.slice A2 2 k2,.slice A3 2 k3,.slice A4 2 k4,.slice A5 2 k5,.slice A6 2 k6] 286)
 ⟨w.heap.size,A1,A2,A3,A4,A5,A6,k1,k2,k3,k4,k5,k6,rfl,hB,Z6.new _ _ _,⟨h1.step al,h2.step al⟩,⟨h3.step al,h4.step al⟩,⟨h5.step al,h6.step al⟩⟩
theorem GV(a b c d:Pt)(ha:PJ a)(hb:PJ b)(hc:PJ c)(hd:PJ d)(w:World):
 Calls prog 188 #[.agg #[.int .i64 a.1,.int .i64 a.2],.agg #[.int .i64 b.1,.int .i64 b.2],.agg #[.int .i64 c.1,.int .i64 c.2],.agg #[.int .i64 d.1,.int .i64 d.2]] w (Zz 5 (YF a b c d) w):=by
 obtain ⟨w0,hw0⟩:=eE ((((w.alloc (.cells #[.int .i64 a.1,.int .i64 a.2] 41)).alloc (.cells #[.int .i64 b.1,.int .i64 b.2] 41)).alloc (.cells #[.int .i64 c.1,.int .i64 c.2] 41)).alloc (.cells #[.int .i64 d.1,.int .i64 d.2] 41));have hb0:Below w.heap.size w w0:=by rw [hw0];exact ZY (ZY (ZY (bA) _) _) _
 have PA:Z6 w0 w.heap.size 41 #[.int .i64 a.1,.int .i64 a.2]:=by rw [hw0];exact (((Z6.new _ _ _).alloc _).alloc _).alloc _
 have PB:Z6 w0 (w.heap.size+1) 41 #[.int .i64 b.1,.int .i64 b.2]:=by rw [hw0];exact ((Z6.new2 _ _ _ _).alloc _).alloc _
 have PC:Z6 w0 (w.heap.size+1+1) 41 #[.int .i64 c.1,.int .i64 c.2]:=by
  rw [hw0];have h:=Z6.new ((w.alloc (.cells #[.int .i64 a.1,.int .i64 a.2] 41)).alloc (.cells #[.int .i64 b.1,.int .i64 b.2] 41)) 41 #[.int .i64 c.1,.int .i64 c.2];have h2:=h.alloc (.cells #[.int .i64 d.1,.int .i64 d.2] 41);simpa using h2
 have Cy:Z6 w0 (w.heap.size+1+1+1) 41 #[.int .i64 d.1,.int .i64 d.2]:=by
  rw [hw0];have h:=Z6.new (((w.alloc (.cells #[.int .i64 a.1,.int .i64 a.2] 41)).alloc (.cells #[.int .i64 b.1,.int .i64 b.2] 41)).alloc (.cells #[.int .i64 c.1,.int .i64 c.2] 41)) 41 #[.int .i64 d.1,.int .i64 d.2];simpa using h
 have HB1:=hide (fun wk=>Yj d.1 d.2 a.1 a.2 hd.1 hd.2 ha.1 ha.2 wk);have HB2:=hide (fun wk=>Yj d.1 d.2 b.1 b.2 hd.1 hd.2 hb.1 hb.2 wk);have HB3:=hide (fun wk=>Yj d.1 d.2 c.1 c.2 hd.1 hd.2 hc.1 hc.2 wk);have hl:w.heap.size<w0.heap.size/\w.heap.size+1<w0.heap.size/\w.heap.size+1+1<w0.heap.size/\w.heap.size+1+1+1<w0.heap.size:=⟨PA.lt,PB.lt,PC.lt,Cy.lt⟩;have h00:Zq w0 w.heap.size (w.heap.size+1) (w.heap.size+1+1) (w.heap.size+1+1+1) a.1 a.2 b.1 b.2 c.1 c.2 d.1 d.2 w0:=⟨Below.refl _ _,PA.q0 rfl,PA.q1 rfl,PB.q0 rfl,PB.q1 rfl,PC.q0 rfl,PC.q1 rfl,Cy.q0 rfl,Cy.q1 rfl⟩
 have Ww:Hid (∀ (A1 A2:Option Addr) (c1 c2:Nat) (x y:Int) (wk:World),(-18446744073709551615<=x/\x<=18446744073709551615)->(-18446744073709551615<=y/\y<=18446744073709551615)->Sl wk wk.heap.size A1 (ZP (ZX 2 x))->Sl wk wk.heap.size A2 (ZP (ZX 2 y)) ->
  Calls prog 252 #[.agg #[.slice A1 2 c1,.slice A2 2 c2]] wk (Zz 4 (YB x y) wk)) :=
  hide fun A1 A2 c1 c2 x y wk hx hy h1 h2=>IG x y (by unfold Fits;rw [w2];omega) (by unfold Fits;rw [w2];omega) A1 A2 c1 c2 wk h1 h2
 have xO:Hid (∀ (A1 A2 A3 A4:Option Addr) (c1 c2 c3 c4:Nat) (ux uy vx vy:Int) (wk:World),(-18446744073709551615<=ux/\ux<=18446744073709551615)->(-18446744073709551615<=uy/\uy<=18446744073709551615)->(-18446744073709551615<=vx/\vx<=18446744073709551615)->(-18446744073709551615<=vy/\vy<=18446744073709551615)->Sl wk wk.heap.size A1 (ZP (ZX 2 ux))->Sl wk wk.heap.size A2 (ZP (ZX 2 uy))->Sl wk wk.heap.size A3 (ZP (ZX 2 vx))->Sl wk wk.heap.size A4 (ZP (ZX 2 vy)) ->
  Calls prog 249 #[.agg #[.slice A1 2 c1,.slice A2 2 c2],.agg #[.slice A3 2 c3,.slice A4 2 c4]] wk (Zz 4 (Y6 ux uy vx vy) wk)) :=
  hide fun A1 A2 A3 A4 c1 c2 c3 c4 ux uy vx vy wk b1 b2 b3 b4 h1 h2 h3 h4=>Q7 _ _ _ _ (by unfold Fits;rw [w2];omega) (by unfold Fits;rw [w2];omega) (by unfold Fits;rw [w2];omega) (by unfold Fits;rw [w2];omega) A1 A2 A3 A4 c1 c2 c3 c4 wk h1 h2 h3 h4
 have Jz:Hid (∀ (A:Option Addr) (k:Nat) (v:Int) (wk:World),Sl wk wk.heap.size A (ZP (ZX 4 v))->Calls prog 248 #[.slice A 4 k,.int .i64 3] wk (Zz 3 v wk)) :=
  hide fun A k v wk h=>YE (Yp 4 3 _ (.inr (by omega)) (by omega) (by omega) (by omega) (by omega) A k wk h)
 have nE:Hid (∀ (A:Option Addr) (k:Nat) (v:Int) (wk:World),Sl wk wk.heap.size A (ZP (ZX 6 v))->Calls prog 248 #[.slice A 6 k,.int .i64 5] wk (Zz 5 v wk)) :=
  hide fun A k v wk h=>YE (Yp 6 5 _ (.inr (by omega)) (by omega) (by omega) (by omega) (by omega) A k wk h)
 have mO:Hid (∀ (A A':Option Addr) (k k':Nat) (x y:Int) (wk:World),Fits 3 x->Fits 3 y->Sl wk wk.heap.size A (ZP (ZX 3 x))->Sl wk wk.heap.size A' (ZP (ZX 3 y))->Calls prog 254 #[.slice A 3 k,.slice A' 3 k'] wk (Zz 6 (x*y) wk)) :=
  hide fun A A' k k' x y wk hx hy h h'=>YE (Wo 3 3 x y (by omega) (by omega) (by omega) hx hy A A' k k' wk h h')
 have HAD:Hid (∀ (A A':Option Addr) (k k':Nat) (x y:Int) (wk:World),Sl wk wk.heap.size A (ZP (ZX 5 x))->Sl wk wk.heap.size A' (ZP (ZX 5 y))->Calls prog 253 #[.slice A 5 k,.slice A' 5 k'] wk (Zz 5 (x+y) wk)) :=
  hide fun A A' k k' x y wk h h'=>YE (Ph 5 x y (by omega) (by omega) A A' k k' wk h h')
 have eu:Hid (∀ wk,Calls prog 251 #[.int .i64 0,.int .i64 5] wk (Zz 5 0 wk)):=hide fun wk=>YE (SA 0 (by omega) (by omega) 5 (by omega) (by omega) wk)
 have Xc:=hide (show ((-18446744073709551615<=a.1 - d.1/\a.1 - d.1<=18446744073709551615)/\(-18446744073709551615<=a.2 - d.2/\a.2 - d.2<=18446744073709551615))/\((-18446744073709551615<=b.1 - d.1/\b.1 - d.1<=18446744073709551615)/\(-18446744073709551615<=b.2 - d.2/\b.2 - d.2<=18446744073709551615))/\((-18446744073709551615<=c.1 - d.1/\c.1 - d.1<=18446744073709551615)/\(-18446744073709551615<=c.2 - d.2/\c.2 - d.2<=18446744073709551615)) from
  ⟨⟨YU ha.1 hd.1,YU ha.2 hd.2⟩,⟨YU hb.1 hd.1,YU hb.2 hd.2⟩,⟨YU hc.1 hd.1,YU hc.2 hd.2⟩⟩)
 have HL:=hide hl;clear ha hb hc hd hl PA PB PC Cy;obtain ⟨a,a'⟩:=a;obtain ⟨b,b'⟩:=b;obtain ⟨c,c'⟩:=c;obtain ⟨d,d'⟩:=d;dsimp only at *;have hd0:=h00.keep (ZV (Below.refl _ _));go_enter func188,ntmps188;go_wp2;rw [<- hw0];have HW0:=hide hw0;clear hw0
 go_cut [9] from 14 to 23 (fun u wx=>Laid6 w0 wx u (a - d) (a' - d') (b - d) (b' - d') (c - d) (c' - d'))
 case first =>
  go_region_held3 (fun w'=>Below w0.heap.size w0 w'/\w'.cell? ⟨w.heap.size,0,none⟩=some (.int .i64 a)/\w'.cell? ⟨w.heap.size,1,none⟩=some (.int .i64 a')/\w'.cell? ⟨w.heap.size+1,0,none⟩=some (.int .i64 b)/\w'.cell? ⟨w.heap.size+1,1,none⟩=some (.int .i64 b')/\w'.cell? ⟨w.heap.size+1+1,0,none⟩=some (.int .i64 c)/\w'.cell? ⟨w.heap.size+1+1,1,none⟩=some (.int .i64 c')/\w'.cell? ⟨w.heap.size+1+1+1,0,none⟩=some (.int .i64 d)/\w'.cell? ⟨w.heap.size+1+1+1,1,none⟩=some (.int .i64 d'))
   (first|with_reducible exact Zq.pq HL.out (by assumption) (by have z1:=hb1.size;have z2:=hb2.size;have z3:=hb3.size;simp only [World.drew] at z1 z2 z3;omega) _ _ _ _ _ _|with_reducible exact hd0|with_reducible exact h00|with_reducible exact Zq.keep (by assumption) (by assumption)|with_reducible exact hd0.keep (by assumption)|with_reducible exact Zq.keep (by assumption) (bA)|with_reducible exact hd0.keep (bA)|with_reducible exact Zq.Fj HL.out (by assumption) (by have z1:=hb1.size;have z2:=hb2.size;have z3:=hb3.size;simp only [World.drew] at z1 z2 z3;omega))
   (first
     | (go_at_call 250;((with_reducible refine (HB1.out _).mono ?_);rintro e w' ⟨A1,k1,A2,k2,rfl,hb1,hs1,hs2⟩;unfold Yv;(first|(have hN:=Ua hb1;have z0:=hN.q0 rfl;have z1:=hN.q1 rfl;have z2:=hN.q2 rfl;have z3:=hN.q3 rfl;have z4:=hN.q4 rfl;have z5:=hN.q5 rfl;have y0:=hN.frozen 0;have y1:=hN.frozen 1;have y2:=hN.frozen 2;have y3:=hN.frozen 3;have y4:=hN.frozen 4;have y5:=hN.frozen 5)|skip)))
     | (go_at_call 250;((with_reducible refine (HB2.out _).mono ?_);rintro e w' ⟨A3,k3,A4,k4,rfl,hb2,hs3,hs4⟩;unfold Yv;(first|(have hN:=Sk hb2;have z0:=hN.q0 rfl;have z1:=hN.q1 rfl;have z2:=hN.q2 rfl;have z3:=hN.q3 rfl;have z4:=hN.q4 rfl;have z5:=hN.q5 rfl;have y0:=hN.frozen 0;have y1:=hN.frozen 1;have y2:=hN.frozen 2;have y3:=hN.frozen 3;have y4:=hN.frozen 4;have y5:=hN.frozen 5)|(have hN:=hN.step hb2;have z0:=hN.q0 rfl;have z1:=hN.q1 rfl;have z2:=hN.q2 rfl;have z3:=hN.q3 rfl;have z4:=hN.q4 rfl;have z5:=hN.q5 rfl;have y0:=hN.frozen 0;have y1:=hN.frozen 1;have y2:=hN.frozen 2;have y3:=hN.frozen 3;have y4:=hN.frozen 4;have y5:=hN.frozen 5)|skip)))
     | (go_at_call 250;((with_reducible refine (HB3.out _).mono ?_);rintro e w' ⟨A5,k5,A6,k6,rfl,hb3,hs5,hs6⟩;unfold Yv;(first|(have hN:=Sk hb3;have z0:=hN.q0 rfl;have z1:=hN.q1 rfl;have z2:=hN.q2 rfl;have z3:=hN.q3 rfl;have z4:=hN.q4 rfl;have z5:=hN.q5 rfl;have y0:=hN.frozen 0;have y1:=hN.frozen 1;have y2:=hN.frozen 2;have y3:=hN.frozen 3;have y4:=hN.frozen 4;have y5:=hN.frozen 5)|(have hN:=hN.step hb3;have z0:=hN.q0 rfl;have z1:=hN.q1 rfl;have z2:=hN.q2 rfl;have z3:=hN.q3 rfl;have z4:=hN.q4 rfl;have z5:=hN.q5 rfl;have y0:=hN.frozen 0;have y1:=hN.frozen 1;have y2:=hN.frozen 2;have y3:=hN.frozen 3;have y4:=hN.frozen 4;have y5:=hN.frozen 5)|skip))))
  all_goals
   have g1:=(by first|with_reducible exact hs1.step hb2|with_reducible exact hs1.RJ hb2:Sl _ _ A1 (ZP (ZX 2 (a - d))));have g2:=(by first|with_reducible exact hs2.step hb2|with_reducible exact hs2.RJ hb2:Sl _ _ A2 (ZP (ZX 2 (a' - d'))));have f1:=(by first|with_reducible exact g1.step hb3|with_reducible exact g1.RJ hb3:Sl _ _ A1 (ZP (ZX 2 (a - d))));have f2:=(by first|with_reducible exact g2.step hb3|with_reducible exact g2.RJ hb3:Sl _ _ A2 (ZP (ZX 2 (a' - d'))));have f3:=(by first|with_reducible exact hs3.step hb3|with_reducible exact hs3.RJ hb3:Sl _ _ A3 (ZP (ZX 2 (b - d))));have f4:=(by first|with_reducible exact hs4.step hb3|with_reducible exact hs4.RJ hb3:Sl _ _ A4 (ZP (ZX 2 (b' - d'))))
   rename_i Xw
   have nX:=Xw.1
   (first|(with_reducible have FIN:=hide (QD hN nX f1 f2 f3 f4 hs5 hs6))|(with_reducible have FIN:=hide (Nc nX f1 f2 f3 f4 hs5 hs6)))
   clear Xw nX f1 f2 f3 f4 g1 g2 hs1 hs2 hs3 hs4 hs5 hs6 hb1 hb2 hb3
  all_goals go_wp2_with fail
  all_goals go_meet
  all_goals exact FIN.out
 case rest =>
  obtain ⟨K,A1,A2,A3,A4,A5,A6,k1,k2,k3,k4,k5,k6,rfl,hbx,kg,⟨s1,s2⟩,⟨s3,s4⟩,⟨s5,s6⟩⟩:=hcut;have RB:=hide kg
  have fu:Hid (∀ wk,Below wc.heap.size wc wk->Calls prog 252 #[.agg #[.slice A1 2 k1,.slice A2 2 k2]] wk (Zz 4 (YB (a - d) (a' - d')) wk)) :=
   hide fun wk hk=>Ww.out A1 A2 k1 k2 _ _ wk Xc.out.1.1 Xc.out.1.2 (s1.step hk) (s2.step hk)
  have JK:Hid (∀ wk,Below wc.heap.size wc wk->Calls prog 249 #[.agg #[.slice A3 2 k3,.slice A4 2 k4],.agg #[.slice A5 2 k5,.slice A6 2 k6]] wk (Zz 4 (Y6 (b - d) (b' - d') (c - d) (c' - d')) wk)) :=
   hide fun wk hk=>xO.out A3 A4 A5 A6 k3 k4 k5 k6 _ _ _ _ wk Xc.out.2.1.1 Xc.out.2.1.2 Xc.out.2.2.1 Xc.out.2.2.2 (s3.step hk) (s4.step hk) (s5.step hk) (s6.step hk)
  have FW:Hid (Fits 3 (YB (a - d) (a' - d'))/\Fits 3 (Y6 (b - d) (b' - d') (c - d) (c' - d'))):=hide ⟨Vp Xc.out.1.1 Xc.out.1.2,V9 Xc.out.2.1.1 Xc.out.2.1.2 Xc.out.2.2.1 Xc.out.2.2.2⟩
  have fA:Hid (∀ wk,Below wc.heap.size wc wk->Calls prog 252 #[.agg #[.slice A3 2 k3,.slice A4 2 k4]] wk (Zz 4 (YB (b - d) (b' - d')) wk)) :=
   hide fun wk hk=>Ww.out A3 A4 k3 k4 _ _ wk Xc.out.2.1.1 Xc.out.2.1.2 (s3.step hk) (s4.step hk)
  have Dw:Hid (∀ wk,Below wc.heap.size wc wk->Calls prog 249 #[.agg #[.slice A5 2 k5,.slice A6 2 k6],.agg #[.slice A1 2 k1,.slice A2 2 k2]] wk (Zz 4 (Y6 (c - d) (c' - d') (a - d) (a' - d')) wk)) :=
   hide fun wk hk=>xO.out A5 A6 A1 A2 k5 k6 k1 k2 _ _ _ _ wk Xc.out.2.2.1 Xc.out.2.2.2 Xc.out.1.1 Xc.out.1.2 (s5.step hk) (s6.step hk) (s1.step hk) (s2.step hk)
  have xR:Hid (Fits 3 (YB (b - d) (b' - d'))/\Fits 3 (Y6 (c - d) (c' - d') (a - d) (a' - d'))):=hide ⟨Vp Xc.out.2.1.1 Xc.out.2.1.2,V9 Xc.out.2.2.1 Xc.out.2.2.2 Xc.out.1.1 Xc.out.1.2⟩
  have fB:Hid (∀ wk,Below wc.heap.size wc wk->Calls prog 252 #[.agg #[.slice A5 2 k5,.slice A6 2 k6]] wk (Zz 4 (YB (c - d) (c' - d')) wk)) :=
   hide fun wk hk=>Ww.out A5 A6 k5 k6 _ _ wk Xc.out.2.2.1 Xc.out.2.2.2 (s5.step hk) (s6.step hk)
  have Gb:Hid (∀ wk,Below wc.heap.size wc wk->Calls prog 249 #[.agg #[.slice A1 2 k1,.slice A2 2 k2],.agg #[.slice A3 2 k3,.slice A4 2 k4]] wk (Zz 4 (Y6 (a - d) (a' - d') (b - d) (b' - d')) wk)) :=
   hide fun wk hk=>xO.out A1 A2 A3 A4 k1 k2 k3 k4 _ _ _ _ wk Xc.out.1.1 Xc.out.1.2 Xc.out.2.1.1 Xc.out.2.1.2 (s1.step hk) (s2.step hk) (s3.step hk) (s4.step hk)
  have jG:Hid (Fits 3 (YB (c - d) (c' - d'))/\Fits 3 (Y6 (a - d) (a' - d') (b - d) (b' - d'))):=hide ⟨Vp Xc.out.2.2.1 Xc.out.2.2.2,V9 Xc.out.1.1 Xc.out.1.2 Xc.out.2.1.1 Xc.out.2.1.2⟩;have FU:=hide (Z8 hb0 hbx);clear s1 s2 s3 s4 s5 s6 kg Xc Ww xO HB1 HB2 HB3 h00 hd0 hbx hb0 HL;go_wp2_with fail;refine (eu.out _).mono ?_;rintro e w1 ⟨A0,k0,rfl,hb1,hs0⟩;go_wp2
  go_loopw [10,25] (fun u i wr=>∃ (q:Int) (A:Option Addr) (kc:Nat),0<=q/\q<=3/\i=.int .i64 q/\u=.slice A 5 kc/\Below wc.heap.size wc wr/\Sl wr wr.heap.size A (ZP (ZX 5 (o8 (YB (a - d) (a' - d')*Y6 (b - d) (b' - d') (c - d) (c' - d')) (YB (b - d) (b' - d')*Y6 (c - d) (c' - d') (a - d) (a' - d')) (YB (c - d) (c' - d')*Y6 (a - d) (a' - d') (b - d) (b' - d')) q.toNat))))
   (fun _ i _=>3 - (intOf i).toNat)
  case atStart=>exact ⟨0,A0,k0,by omega,by omega,rfl,rfl,hb1,hs0⟩
  case round =>
   clear hb1 hs0;obtain ⟨q,A,kc,hq0,hq3,rfl,rfl,hbr,hsr⟩:=hrel;have hk4:q=0\/q=1\/q=2\/q=3:=(by omega);clear hq0 hq3;rcases hk4 with rfl|rfl|rfl|rfl
   · -- round 0
     have RW:=RB.out.step hbr;have z0:wr.cell? ⟨K,0,none⟩=some (.slice A1 2 k1):=RW.q0 rfl;have z1:wr.cell? ⟨K,1,none⟩=some (.slice A2 2 k2):=RW.q1 rfl;have z2:wr.cell? ⟨K,2,none⟩=some (.slice A3 2 k3):=RW.q2 rfl;have z3:wr.cell? ⟨K,3,none⟩=some (.slice A4 2 k4):=RW.q3 rfl;have z4:wr.cell? ⟨K,4,none⟩=some (.slice A5 2 k5):=RW.q4 rfl;have z5:wr.cell? ⟨K,5,none⟩=some (.slice A6 2 k6):=RW.q5 rfl;have hd6:=WO.keep (wx:=wc) (K:=K) ⟨hbr,z0,z1,z2,z3,z4,z5⟩ (ZV (Below.refl _ _));have hbd:=ZV hbr;have q1:(IntKind.i64.wrap 1).tmod 3=1:=(by decide);have q2:(IntKind.i64.wrap 2).tmod 3=2:=(by decide);clear RW;go_wp2_with fail
     go_region_held3 (fun w'=>Below wc.heap.size wc w'/\w'.cell? ⟨K,0,none⟩=some (.slice A1 2 k1)/\w'.cell? ⟨K,1,none⟩=some (.slice A2 2 k2)/\w'.cell? ⟨K,2,none⟩=some (.slice A3 2 k3)/\w'.cell? ⟨K,3,none⟩=some (.slice A4 2 k4)/\w'.cell? ⟨K,4,none⟩=some (.slice A5 2 k5)/\w'.cell? ⟨K,5,none⟩=some (.slice A6 2 k6))
      (first|exact hd6|exact WO.keep (by assumption) (by assumption)|exact hd6.keep (by assumption))
      (first
        | (go_at_call 249;((with_reducible refine (JK.out _ hbd).mono ?_);rintro e w' ⟨A7,k7,rfl,hb2,hs7⟩))
        | (go_at_call 248;((with_reducible refine (Jz.out _ _ _ _ hs7).mono ?_);rintro e w' ⟨A8,k8,rfl,hb3,JF⟩)))
     rename_i w2 Xw
     obtain ⟨w3,hw3⟩:=eE w';subst hw3;clear Xw z0 z1 z2 z3 z4 z5 hd6 q1 q2;have hB3:=Z8 (Z8 hbd hb2) hb3;have RW:=RB.out.step hB3;have z0:w3.cell? ⟨K,0,none⟩=some (.slice A1 2 k1):=RW.q0 rfl;have z1:w3.cell? ⟨K,1,none⟩=some (.slice A2 2 k2):=RW.q1 rfl;have z2:w3.cell? ⟨K,2,none⟩=some (.slice A3 2 k3):=RW.q2 rfl;have z3:w3.cell? ⟨K,3,none⟩=some (.slice A4 2 k4):=RW.q3 rfl;have z4:w3.cell? ⟨K,4,none⟩=some (.slice A5 2 k5):=RW.q4 rfl;have z5:w3.cell? ⟨K,5,none⟩=some (.slice A6 2 k6):=RW.q5 rfl;have hsA:=hide (((hsr.drew.step (w:=wr.drew) hb2).step hb3));have Dk:=hide JF;clear RW hbr hbd hs7 JF hsr hb2 hb3;go_wp2_with fail;refine (fu.out _ hB3).mono ?_;rintro e w4 ⟨A9,k9,rfl,hb4,JG⟩;clear z0 z1 z2 z3 z4 z5;go_wp2_with fail;refine (Jz.out _ _ _ _ JG).mono ?_;rintro e w5 ⟨jy,k10,rfl,hb5,Ue⟩;have CX:=hide ((Dk.out.step hb4).step hb5);have CV:=hide ((hsA.out.step hb4).step hb5);have JB:=Z8 (Z8 hB3 hb4) hb5;clear Dk hsA hb4 hb5 hB3 JG;have C1:=hide (mO.out _ _ k10 k8 _ _ _ FW.out.1 FW.out.2 Ue CX.out);clear Ue;go_wp2_with fail;refine C1.out.mono ?_;rintro e w6 ⟨jA,k11,rfl,hb6,Uf⟩;have C2:=hide (nE.out _ k11 _ _ Uf);clear Uf CX;go_wp2_with fail;refine C2.out.mono ?_;rintro e w7 ⟨jB,k12,rfl,Vz,R6⟩;have C3:=hide (HAD.out _ _ kc k12 _ _ _ ((CV.out.step hb6).step Vz) R6);clear R6 CV;go_wp2_with fail;refine C3.out.mono ?_;rintro e w8 ⟨qP,k13,rfl,U7,OW⟩;have sN:=Z8 (Z8 (Z8 JB hb6) Vz) U7;have Gq:=hide OW;clear OW hb6 Vz U7 JB C1 C2 C3;go_wp2;go_roundw
     case rel=>exact ⟨1,qP,k13,by omega,by omega,rfl,rfl,sN,Gq.out⟩
     case measure=>simp [intOf]
   · -- round 1
     have RW:=RB.out.step hbr;have z0:wr.cell? ⟨K,0,none⟩=some (.slice A1 2 k1):=RW.q0 rfl;have z1:wr.cell? ⟨K,1,none⟩=some (.slice A2 2 k2):=RW.q1 rfl;have z2:wr.cell? ⟨K,2,none⟩=some (.slice A3 2 k3):=RW.q2 rfl;have z3:wr.cell? ⟨K,3,none⟩=some (.slice A4 2 k4):=RW.q3 rfl;have z4:wr.cell? ⟨K,4,none⟩=some (.slice A5 2 k5):=RW.q4 rfl;have z5:wr.cell? ⟨K,5,none⟩=some (.slice A6 2 k6):=RW.q5 rfl;have hd6:=WO.keep (wx:=wc) (K:=K) ⟨hbr,z0,z1,z2,z3,z4,z5⟩ (ZV (Below.refl _ _));have hbd:=ZV hbr;have q1:(IntKind.i64.wrap 2).tmod 3=2:=(by decide);have q2:(IntKind.i64.wrap 3).tmod 3=0:=(by decide);clear RW;go_wp2_with fail
     go_region_held3 (fun w'=>Below wc.heap.size wc w'/\w'.cell? ⟨K,0,none⟩=some (.slice A1 2 k1)/\w'.cell? ⟨K,1,none⟩=some (.slice A2 2 k2)/\w'.cell? ⟨K,2,none⟩=some (.slice A3 2 k3)/\w'.cell? ⟨K,3,none⟩=some (.slice A4 2 k4)/\w'.cell? ⟨K,4,none⟩=some (.slice A5 2 k5)/\w'.cell? ⟨K,5,none⟩=some (.slice A6 2 k6))
      (first|exact hd6|exact WO.keep (by assumption) (by assumption)|exact hd6.keep (by assumption))
      (first
        | (go_at_call 249;((with_reducible refine (Dw.out _ hbd).mono ?_);rintro e w' ⟨A7,k7,rfl,hb2,hs7⟩))
        | (go_at_call 248;((with_reducible refine (Jz.out _ _ _ _ hs7).mono ?_);rintro e w' ⟨A8,k8,rfl,hb3,JF⟩)))
     rename_i w2 Xw
     obtain ⟨w3,hw3⟩:=eE w';subst hw3;clear Xw z0 z1 z2 z3 z4 z5 hd6 q1 q2;have hB3:=Z8 (Z8 hbd hb2) hb3;have RW:=RB.out.step hB3;have z0:w3.cell? ⟨K,0,none⟩=some (.slice A1 2 k1):=RW.q0 rfl;have z1:w3.cell? ⟨K,1,none⟩=some (.slice A2 2 k2):=RW.q1 rfl;have z2:w3.cell? ⟨K,2,none⟩=some (.slice A3 2 k3):=RW.q2 rfl;have z3:w3.cell? ⟨K,3,none⟩=some (.slice A4 2 k4):=RW.q3 rfl;have z4:w3.cell? ⟨K,4,none⟩=some (.slice A5 2 k5):=RW.q4 rfl;have z5:w3.cell? ⟨K,5,none⟩=some (.slice A6 2 k6):=RW.q5 rfl;have hsA:=hide (((hsr.drew.step (w:=wr.drew) hb2).step hb3));have Dk:=hide JF;clear RW hbr hbd hs7 JF hsr hb2 hb3;go_wp2_with fail;refine (fA.out _ hB3).mono ?_;rintro e w4 ⟨A9,k9,rfl,hb4,JG⟩;clear z0 z1 z2 z3 z4 z5;go_wp2_with fail;refine (Jz.out _ _ _ _ JG).mono ?_;rintro e w5 ⟨jy,k10,rfl,hb5,Ue⟩;have CX:=hide ((Dk.out.step hb4).step hb5);have CV:=hide ((hsA.out.step hb4).step hb5);have JB:=Z8 (Z8 hB3 hb4) hb5;clear Dk hsA hb4 hb5 hB3 JG;have C1:=hide (mO.out _ _ k10 k8 _ _ _ xR.out.1 xR.out.2 Ue CX.out);clear Ue;go_wp2_with fail;refine C1.out.mono ?_;rintro e w6 ⟨jA,k11,rfl,hb6,Uf⟩;have C2:=hide (nE.out _ k11 _ _ Uf);clear Uf CX;go_wp2_with fail;refine C2.out.mono ?_;rintro e w7 ⟨jB,k12,rfl,Vz,R6⟩;have C3:=hide (HAD.out _ _ kc k12 _ _ _ ((CV.out.step hb6).step Vz) R6);clear R6 CV;go_wp2_with fail;refine C3.out.mono ?_;rintro e w8 ⟨qP,k13,rfl,U7,OW⟩;have sN:=Z8 (Z8 (Z8 JB hb6) Vz) U7;have Gq:=hide OW;clear OW hb6 Vz U7 JB C1 C2 C3;go_wp2;go_roundw
     case rel=>exact ⟨2,qP,k13,by omega,by omega,rfl,rfl,sN,Gq.out⟩
     case measure=>simp [intOf]
   · -- round 2
     have RW:=RB.out.step hbr;have z0:wr.cell? ⟨K,0,none⟩=some (.slice A1 2 k1):=RW.q0 rfl;have z1:wr.cell? ⟨K,1,none⟩=some (.slice A2 2 k2):=RW.q1 rfl;have z2:wr.cell? ⟨K,2,none⟩=some (.slice A3 2 k3):=RW.q2 rfl;have z3:wr.cell? ⟨K,3,none⟩=some (.slice A4 2 k4):=RW.q3 rfl;have z4:wr.cell? ⟨K,4,none⟩=some (.slice A5 2 k5):=RW.q4 rfl;have z5:wr.cell? ⟨K,5,none⟩=some (.slice A6 2 k6):=RW.q5 rfl;have hd6:=WO.keep (wx:=wc) (K:=K) ⟨hbr,z0,z1,z2,z3,z4,z5⟩ (ZV (Below.refl _ _));have hbd:=ZV hbr;have q1:(IntKind.i64.wrap 3).tmod 3=0:=(by decide);have q2:(IntKind.i64.wrap 4).tmod 3=1:=(by decide);clear RW;go_wp2_with fail
     go_region_held3 (fun w'=>Below wc.heap.size wc w'/\w'.cell? ⟨K,0,none⟩=some (.slice A1 2 k1)/\w'.cell? ⟨K,1,none⟩=some (.slice A2 2 k2)/\w'.cell? ⟨K,2,none⟩=some (.slice A3 2 k3)/\w'.cell? ⟨K,3,none⟩=some (.slice A4 2 k4)/\w'.cell? ⟨K,4,none⟩=some (.slice A5 2 k5)/\w'.cell? ⟨K,5,none⟩=some (.slice A6 2 k6))
      (first|exact hd6|exact WO.keep (by assumption) (by assumption)|exact hd6.keep (by assumption))
      (first
        | (go_at_call 249;((with_reducible refine (Gb.out _ hbd).mono ?_);rintro e w' ⟨A7,k7,rfl,hb2,hs7⟩))
        | (go_at_call 248;((with_reducible refine (Jz.out _ _ _ _ hs7).mono ?_);rintro e w' ⟨A8,k8,rfl,hb3,JF⟩)))
     rename_i w2 Xw
     obtain ⟨w3,hw3⟩:=eE w';subst hw3;clear Xw z0 z1 z2 z3 z4 z5 hd6 q1 q2;have hB3:=Z8 (Z8 hbd hb2) hb3;have RW:=RB.out.step hB3;have z0:w3.cell? ⟨K,0,none⟩=some (.slice A1 2 k1):=RW.q0 rfl;have z1:w3.cell? ⟨K,1,none⟩=some (.slice A2 2 k2):=RW.q1 rfl;have z2:w3.cell? ⟨K,2,none⟩=some (.slice A3 2 k3):=RW.q2 rfl;have z3:w3.cell? ⟨K,3,none⟩=some (.slice A4 2 k4):=RW.q3 rfl;have z4:w3.cell? ⟨K,4,none⟩=some (.slice A5 2 k5):=RW.q4 rfl;have z5:w3.cell? ⟨K,5,none⟩=some (.slice A6 2 k6):=RW.q5 rfl;have hsA:=hide (((hsr.drew.step (w:=wr.drew) hb2).step hb3));have Dk:=hide JF;clear RW hbr hbd hs7 JF hsr hb2 hb3;go_wp2_with fail;refine (fB.out _ hB3).mono ?_;rintro e w4 ⟨A9,k9,rfl,hb4,JG⟩;clear z0 z1 z2 z3 z4 z5;go_wp2_with fail;refine (Jz.out _ _ _ _ JG).mono ?_;rintro e w5 ⟨jy,k10,rfl,hb5,Ue⟩;have CX:=hide ((Dk.out.step hb4).step hb5);have CV:=hide ((hsA.out.step hb4).step hb5);have JB:=Z8 (Z8 hB3 hb4) hb5;clear Dk hsA hb4 hb5 hB3 JG;have C1:=hide (mO.out _ _ k10 k8 _ _ _ jG.out.1 jG.out.2 Ue CX.out);clear Ue;go_wp2_with fail;refine C1.out.mono ?_;rintro e w6 ⟨jA,k11,rfl,hb6,Uf⟩;have C2:=hide (nE.out _ k11 _ _ Uf);clear Uf CX;go_wp2_with fail;refine C2.out.mono ?_;rintro e w7 ⟨jB,k12,rfl,Vz,R6⟩;have C3:=hide (HAD.out _ _ kc k12 _ _ _ ((CV.out.step hb6).step Vz) R6);clear R6 CV;go_wp2_with fail;refine C3.out.mono ?_;rintro e w8 ⟨qP,k13,rfl,U7,OW⟩;have sN:=Z8 (Z8 (Z8 JB hb6) Vz) U7;have Gq:=hide OW;clear OW hb6 Vz U7 JB C1 C2 C3;go_wp2;go_roundw
     case rel=>exact ⟨3,qP,k13,by omega,by omega,rfl,rfl,sN,Gq.out⟩
     case measure=>simp [intOf]
   · have gu:=hide hsr;clear hsr;go_wp2;go_ret;exact ⟨A,kc,rfl,Z8 FU.out hbr,gu.out⟩
theorem jw:(18446744073709551616:Int) ^ 5=2135987035920910082395021706169552114602704522356652769947041607822219725780640550022962086936576:=by decide +kernel
theorem Xk{x y:Int}(h1:-18446744073709551615<=x/\x<=18446744073709551615)(h2:-18446744073709551615<=y/\y<=18446744073709551615):-680564733841876926852962238568698216450<=YB x y/\YB x y<=680564733841876926852962238568698216450:=by
 have a:=Ya h1.1 h1.2 h1.1 h1.2;have b:=Ya h2.1 h2.2 h2.1 h2.2;unfold YB;omega
theorem Qs{a b c d:Pt}(ha:PJ a)(hb:PJ b)(hc:PJ c)(hd:PJ d):Fits 5 (YF a b c d):=by
 have a1:=YU ha.1 hd.1;have a2:=YU ha.2 hd.2;have b1:=YU hb.1 hd.1;have b2:=YU hb.2 hd.2;have c1:=YU hc.1 hd.1;have c2:=YU hc.2 hd.2;have p:=Ya (Xk a1 a2).1 (Xk a1 a2).2 (YH b1 b2 c1 c2).1 (YH b1 b2 c1 c2).2;have q:=Ya (Xk b1 b2).1 (Xk b1 b2).2 (YH c1 c2 a1 a2).1 (YH c1 c2 a1 a2).2;have r:=Ya (Xk c1 c2).1 (Xk c1 c2).2 (YH a1 a2 b1 b2).1 (YH a1 a2 b1 b2).2;unfold Fits YF;rw [jw];omega
theorem Yd(x:Int):x.sign=-1\/x.sign=0\/x.sign=1:=by
 rcases Int.lt_trichotomy x 0 with h|h|h
 · exact .inl (Int.sign_eq_neg_one_of_neg h)
 · subst h;exact .inr (.inl rfl)
 · exact .inr (.inr (Int.sign_eq_one_of_pos h))
theorem VG(x y:Int):IntKind.i64.wrap (x.sign*y.sign)=x.sign*y.sign:=by
 rcases Yd x with h|h|h <;> rcases Yd y with h'|h'|h' <;> rw [h,h'] <;> decide
theorem J9(a b c d:Pt)(ha:PJ a)(hb:PJ b)(hc:PJ c)(hd:PJ d)(w:World)(hw:MW w):
 Calls prog 138 #[.agg #[.int .i64 a.1,.int .i64 a.2],.agg #[.int .i64 b.1,.int .i64 b.2],.agg #[.int .i64 c.1,.int .i64 c.2],.agg #[.int .i64 d.1,.int .i64 d.2]] w fun e w'=>e=.returned (.int .i64 (YF a b c d).sign)/\Below w.heap.size w w':=by
 obtain ⟨w0,hw0⟩:=eE ((((w.alloc (.cells #[.int .i64 a.1,.int .i64 a.2] 41)).alloc (.cells #[.int .i64 b.1,.int .i64 b.2] 41)).alloc (.cells #[.int .i64 c.1,.int .i64 c.2] 41)).alloc (.cells #[.int .i64 d.1,.int .i64 d.2] 41));have hb0:Below w.heap.size w w0:=by rw [hw0];exact ZY (ZY (ZY (bA) _) _) _
 have HV:=hide (GV a b c d ha hb hc hd w0);have HF:=hide (Qs ha hb hc hd);have HW:=hide (hw.step hb0);clear ha hb hc hd hw;go_enter func138,ntmps138;go_wp2_with fail;rw [<- hw0];have HW0:=hide hw0;clear hw0;refine HV.out.mono ?_;rintro e w1 ⟨A1,c1,rfl,hb1,hs1⟩;have hw1:=HW.out.step hb1;have HS:=hide (XT 5 _ HF.out (by omega) (by omega) A1 c1 w1 hs1 hw1.1 hw1.2);clear hs1 hw1;go_wp2_with fail;refine HS.out.mono ?_;rintro e w2 ⟨rfl,hb2⟩;go_wp2;go_ret;exact ⟨rfl,Z8 (Z8 hb0 hb1) hb2⟩
theorem J8(a b c d:Pt)(ha:PJ a)(hb:PJ b)(hc:PJ c)(hd:PJ d)(w:World)(hw:MW w):
 Calls prog 376 #[.agg #[.int .i64 a.1,.int .i64 a.2],.agg #[.int .i64 b.1,.int .i64 b.2],.agg #[.int .i64 c.1,.int .i64 c.2],.agg #[.int .i64 d.1,.int .i64 d.2]] w fun e w'=>e=.returned (.int .i64 ((YF a b c d).sign*(ZL a b c).sign))/\Below w.heap.size w w':=by
 obtain ⟨w0,hw0⟩:=eE ((((w.alloc (.cells #[.int .i64 a.1,.int .i64 a.2] 41)).alloc (.cells #[.int .i64 b.1,.int .i64 b.2] 41)).alloc (.cells #[.int .i64 c.1,.int .i64 c.2] 41)).alloc (.cells #[.int .i64 d.1,.int .i64 d.2] 41));have hb0:Below w.heap.size w w0:=by rw [hw0];exact ZY (ZY (ZY (bA) _) _) _
 have PA:Z6 w0 w.heap.size 41 #[.int .i64 a.1,.int .i64 a.2]:=by rw [hw0];exact (((Z6.new _ _ _).alloc _).alloc _).alloc _
 have PB:Z6 w0 (w.heap.size+1) 41 #[.int .i64 b.1,.int .i64 b.2]:=by rw [hw0];exact ((Z6.new2 _ _ _ _).alloc _).alloc _
 have PC:Z6 w0 (w.heap.size+1+1) 41 #[.int .i64 c.1,.int .i64 c.2]:=by
  rw [hw0];have h:=Z6.new ((w.alloc (.cells #[.int .i64 a.1,.int .i64 a.2] 41)).alloc (.cells #[.int .i64 b.1,.int .i64 b.2] 41)) 41 #[.int .i64 c.1,.int .i64 c.2];have h2:=h.alloc (.cells #[.int .i64 d.1,.int .i64 d.2] 41);simpa using h2
 have Cy:Z6 w0 (w.heap.size+1+1+1) 41 #[.int .i64 d.1,.int .i64 d.2]:=by
  rw [hw0];have h:=Z6.new (((w.alloc (.cells #[.int .i64 a.1,.int .i64 a.2] 41)).alloc (.cells #[.int .i64 b.1,.int .i64 b.2] 41)).alloc (.cells #[.int .i64 c.1,.int .i64 c.2] 41)) 41 #[.int .i64 d.1,.int .i64 d.2];simpa using h
 have h00:Zq w0 w.heap.size (w.heap.size+1) (w.heap.size+1+1) (w.heap.size+1+1+1) a.1 a.2 b.1 b.2 c.1 c.2 d.1 d.2 w0:=⟨Below.refl _ _,PA.q0 rfl,PA.q1 rfl,PB.q0 rfl,PB.q1 rfl,PC.q0 rfl,PC.q1 rfl,Cy.q0 rfl,Cy.q1 rfl⟩;have HC:Hid (∀ wk,Below w0.heap.size w0 wk->Calls prog 138 #[.agg #[.int .i64 a.1,.int .i64 a.2],.agg #[.int .i64 b.1,.int .i64 b.2],.agg #[.int .i64 c.1,.int .i64 c.2],.agg #[.int .i64 d.1,.int .i64 d.2]] wk fun e w'=>e=.returned (.int .i64 (YF a b c d).sign)/\Below wk.heap.size wk w'):=hide fun wk hk=>J9 a b c d ha hb hc hd wk ((hw.step hb0).step hk);have HO:Hid (∀ wk,Below w0.heap.size w0 wk->Calls prog 137 #[.agg #[.int .i64 a.1,.int .i64 a.2],.agg #[.int .i64 b.1,.int .i64 b.2],.agg #[.int .i64 c.1,.int .i64 c.2]] wk fun e w'=>e=.returned (.int .i64 (ZL a b c).sign)/\Below wk.heap.size wk w'):=hide fun wk hk=>Xm a b c ha hb hc wk ((hw.step hb0).step hk);have hwr:=VG (YF a b c d) (ZL a b c);clear ha hb hc hd hw PA PB PC Cy;generalize hcs:(YF a b c d).sign=cs at *;generalize hos:(ZL a b c).sign=os at *;obtain ⟨a,a'⟩:=a;obtain ⟨b,b'⟩:=b;obtain ⟨c,c'⟩:=c;obtain ⟨d,d'⟩:=d;dsimp only at *;clear hcs hos;have hd0:=h00.keep (ZV (Below.refl _ _));have hbd:=ZV (Below.refl w0.heap.size w0);go_enter func376,ntmps376;go_wp2;rw [<- hw0];have HW0:=hide hw0;clear hw0
 go_region_held3 (fun w'=>Below w0.heap.size w0 w'/\w'.cell? ⟨w.heap.size,0,none⟩=some (.int .i64 a)/\w'.cell? ⟨w.heap.size,1,none⟩=some (.int .i64 a')/\w'.cell? ⟨w.heap.size+1,0,none⟩=some (.int .i64 b)/\w'.cell? ⟨w.heap.size+1,1,none⟩=some (.int .i64 b')/\w'.cell? ⟨w.heap.size+1+1,0,none⟩=some (.int .i64 c)/\w'.cell? ⟨w.heap.size+1+1,1,none⟩=some (.int .i64 c')/\w'.cell? ⟨w.heap.size+1+1+1,0,none⟩=some (.int .i64 d)/\w'.cell? ⟨w.heap.size+1+1+1,1,none⟩=some (.int .i64 d'))
  (first|with_reducible exact hd0|with_reducible exact h00|with_reducible exact Zq.keep (by assumption) (by assumption)|with_reducible exact hd0.keep (by assumption))
  (first
    | (go_at_call 138;((with_reducible refine (HC.out _ (by first|with_reducible exact hbd|with_reducible exact Z8 hbd hb2)).mono ?_);rintro e w' ⟨rfl,hb1⟩))
    | (go_at_call 137;((with_reducible refine (HO.out _ (by first|with_reducible exact hbd|with_reducible exact Z8 hbd hb1)).mono ?_);rintro e w' ⟨rfl,hb2⟩)))
 all_goals
  go_wp2;go_ret
  first|exact ⟨rfl,Z8 (Z8 (ZV hb0) hb1) hb2⟩|exact ⟨rfl,Z8 (Z8 (ZV hb0) hb2) hb1⟩
end
end Go.Proofs.YthnenedoblncjaaGreatDoor