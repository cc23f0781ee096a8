/- Circle2 -/
import Derived.Deep.DeepCutAuto
import Derived.Test.YthnenedoblncjaaGreatDoorPkP10
set_option maxRecDepth 1000000
set_option maxHeartbeats 8000000
namespace Go.Proofs.YthnenedoblncjaaGreatDoor
section
open Go.RowKit
theorem norm_any (x y:Int) (fx:Fits 2 x) (fy:Fits 2 y) (A1 A2:Option Addr) (c1 c2:Nat) (w:World) (h1:Sl w w.heap.size A1 (uCs (lims 2 x))) (h2:Sl w w.heap.size A2 (uCs (lims 2 y))) :
 Calls Tryz.prog 252 #[.agg #[.slice A1 2 c1,.slice A2 2 c2]] w (GaveN 4 (x*x+y*y) w):=by
 obtain ⟨w0,hw0⟩:∃ w0,w0=w.alloc (.cells #[.slice A1 2 c1,.slice A2 2 c2] 284):=⟨_,rfl⟩
 have hb0:Below w.heap.size w w0:=by rw [hw0];exact bA
 have hz:=hb0.size
 have HP:=hide (dot_any x y x y fx fy fx fy A1 A2 A1 A2 c1 c2 c1 c2 w0 ((h1.below hb0).more hz) ((h2.below hb0).more hz) ((h1.below hb0).more hz) ((h2.below hb0).more hz))
 clear h1 h2 fx fy
 go_enter Tryz.func252,Tryz.ntmps252
 go_wp2_with fail
 rw [← hw0]
 have HW0:=hide hw0
 clear hw0
 refine HP.out.mono ?_
 rintro e w1 ⟨A5,c5,rfl,hb1,hs⟩
 go_wp2
 go_ret
 exact ⟨A5,c5,rfl,bl_step hb0 hb1,hs⟩
theorem alloc_kept {wk w':World} {cs:Array Value} {t:TypeId} (hb:Below (wk.alloc (.cells cs t)).heap.size (wk.alloc (.cells cs t)) w'):Blk w' wk.heap.size t cs:=(Blk.new wk t cs).step hb
theorem alloc_kept_drew {wk w':World} {cs:Array Value} {t:TypeId} (hb:Below (wk.alloc (.cells cs t)).drew.heap.size (wk.alloc (.cells cs t)).drew w'):Blk w' wk.heap.size t cs:=(show Blk (wk.alloc (.cells cs t)).drew wk.heap.size t cs from Blk.new wk t cs).step hb
abbrev Held4P (w0:World) (b1 b2 b3 b4:Nat) (x1 y1 x2 y2 x3 y3 x4 y4:Int) (w':World):Prop :=
 Below w0.heap.size w0 w'∧w'.cell? ⟨b1,0,none⟩=some (.int .i64 x1)∧w'.cell? ⟨b1,1,none⟩=some (.int .i64 y1)∧w'.cell? ⟨b2,0,none⟩=some (.int .i64 x2)∧w'.cell? ⟨b2,1,none⟩=some (.int .i64 y2)∧w'.cell? ⟨b3,0,none⟩=some (.int .i64 x3)∧w'.cell? ⟨b3,1,none⟩=some (.int .i64 y3)∧w'.cell? ⟨b4,0,none⟩=some (.int .i64 x4)∧w'.cell? ⟨b4,1,none⟩=some (.int .i64 y4)
theorem Held4P.keep {w0 wk w':World} {b1 b2 b3 b4:Nat} {x1 y1 x2 y2 x3 y3 x4 y4:Int} (h:Held4P w0 b1 b2 b3 b4 x1 y1 x2 y2 x3 y3 x4 y4 wk) (hb:Below wk.heap.size wk w'):Held4P w0 b1 b2 b3 b4 x1 y1 x2 y2 x3 y3 x4 y4 w':=by
 have on:∀ {b o:Nat} {v:Value},wk.cell? ⟨b,o,none⟩=some v→w'.cell? ⟨b,o,none⟩=some v:=fun h=>(hb.cell (p:=⟨_,_,none⟩) (cell_lt h)).trans h
 obtain ⟨h0,h1,h2,h3,h4,h5,h6,h7,h8⟩:=h
 exact ⟨bl_step h0 hb,on h1,on h2,on h3,on h4,on h5,on h6,on h7,on h8⟩
theorem Held4P.set {w0 wk:World} {b1 b2 b3 b4:Nat} {x1 y1 x2 y2 x3 y3 x4 y4:Int} (hl:b1<w0.heap.size∧b2<w0.heap.size∧b3<w0.heap.size∧b4<w0.heap.size) (h:Held4P w0 b1 b2 b3 b4 x1 y1 x2 y2 x3 y3 x4 y4 wk) {K:Nat} (hK:w0.heap.size≤K) (o:Nat) (u:Value) :
 Held4P w0 b1 b2 b3 b4 x1 y1 x2 y2 x3 y3 x4 y4 (wk.setCell ⟨K,o,none⟩ u):=by
 have on:∀ {b o':Nat} {v:Value},b<w0.heap.size→wk.cell? ⟨b,o',none⟩=some v→(wk.setCell ⟨K,o,none⟩ u).cell? ⟨b,o',none⟩=some v:=fun hb h=>by
  rw [World.cell?_of_block (Below.heap_setCell wk ⟨K,o,none⟩ u _ (by dsimp only;omega))];exact h
 obtain ⟨h0,h1,h2,h3,h4,h5,h6,h7,h8⟩:=h
 exact ⟨h0.setCell hK u,on hl.1 h1,on hl.1 h2,on hl.2.1 h3,on hl.2.1 h4,on hl.2.2.1 h5,on hl.2.2.1 h6,on hl.2.2.2 h7,on hl.2.2.2 h8⟩
theorem Held4P.set6 {w0 wk:World} {b1 b2 b3 b4:Nat} {x1 y1 x2 y2 x3 y3 x4 y4:Int} (hl:b1<w0.heap.size∧b2<w0.heap.size∧b3<w0.heap.size∧b4<w0.heap.size) (h:Held4P w0 b1 b2 b3 b4 x1 y1 x2 y2 x3 y3 x4 y4 wk) {K:Nat} (hK:w0.heap.size≤K) (u0 u1 u2 u3 u4 u5:Value) :
 Held4P w0 b1 b2 b3 b4 x1 y1 x2 y2 x3 y3 x4 y4 ((((((wk.setCell ⟨K,0,none⟩ u0).setCell ⟨K,1,none⟩ u1).setCell ⟨K,2,none⟩ u2).setCell ⟨K,3,none⟩ u3).setCell ⟨K,4,none⟩ u4).setCell ⟨K,5,none⟩ u5):=by
 have st:∀ (w1:World) (o:Nat) (u:Value),Held4P w0 b1 b2 b3 b4 x1 y1 x2 y2 x3 y3 x4 y4 w1→Held4P w0 b1 b2 b3 b4 x1 y1 x2 y2 x3 y3 x4 y4 (w1.setCell ⟨K,o,none⟩ u):=fun w1 o u h=>Held4P.set hl h hK o u
 exact st _ _ _ (st _ _ _ (st _ _ _ (st _ _ _ (st _ _ _ (st _ _ _ h)))))
theorem Held4P.realloc {w0 wk:World} {b1 b2 b3 b4:Nat} {x1 y1 x2 y2 x3 y3 x4 y4:Int} (hl:b1<w0.heap.size∧b2<w0.heap.size∧b3<w0.heap.size∧b4<w0.heap.size) {X Y:Obj} (h:Held4P w0 b1 b2 b3 b4 x1 y1 x2 y2 x3 y3 x4 y4 (wk.alloc Y)) (hz:w0.heap.size≤wk.heap.size) :
 Held4P w0 b1 b2 b3 b4 x1 y1 x2 y2 x3 y3 x4 y4 (wk.alloc X):=by
 have hx:∀ k,k<w0.heap.size→(wk.alloc X).heap[k]?=(wk.alloc Y).heap[k]?:=fun k hk =>
  ((bl_alloc (Below.refl wk.heap.size wk) X).block k (Nat.lt_of_lt_of_le hk hz)).trans ((bl_alloc (Below.refl wk.heap.size wk) Y).block k (Nat.lt_of_lt_of_le hk hz)).symm
 have on:∀ {b o:Nat} {v:Value},b<w0.heap.size→(wk.alloc Y).cell? ⟨b,o,none⟩=some v→(wk.alloc X).cell? ⟨b,o,none⟩=some v:=fun hb h=>by
  rw [World.cell?_of_block (hx _ hb)];exact h
 obtain ⟨h0,h1,h2,h3,h4,h5,h6,h7,h8⟩:=h
 have h0':Below w0.heap.size w0 (wk.alloc X):=⟨h0.os,h0.tape,h0.output,by have:=h0.size;simpa using this,fun k hk=>(hx k hk).trans (h0.block k hk)⟩
 exact ⟨h0',on hl.1 h1,on hl.1 h2,on hl.2.1 h3,on hl.2.1 h4,on hl.2.2.1 h5,on hl.2.2.1 h6,on hl.2.2.2 h7,on hl.2.2.2 h8⟩
def normD (x y:Int):Int:=x*x+y*y
def circleD (a b c d:Pt):Int :=
 0+normD (a.1 - d.1) (a.2 - d.2)*crossD (b.1 - d.1) (b.2 - d.2) (c.1 - d.1) (c.2 - d.2)
  + normD (b.1 - d.1) (b.2 - d.2)*crossD (c.1 - d.1) (c.2 - d.2) (a.1 - d.1) (a.2 - d.2)
  + normD (c.1 - d.1) (c.2 - d.2)*crossD (a.1 - d.1) (a.2 - d.2) (b.1 - d.1) (b.2 - d.2)
def psum (t0 t1 t2:Int):Nat→Int
 | 0=>0
 | 1=>0+t0
 | 2=>0+t0+t1
 | _=>0+t0+t1+t2
theorem fits3_cross {ux uy vx vy:Int} (h1:-18446744073709551615≤ux∧ux≤18446744073709551615) (h2:-18446744073709551615≤uy∧uy≤18446744073709551615) (h3:-18446744073709551615≤vx∧vx≤18446744073709551615) (h4:-18446744073709551615≤vy∧vy≤18446744073709551615):Fits 3 (crossD ux uy vx vy):=by
 have h:=crossD_bd h1 h2 h3 h4
 unfold Fits;rw [w3e];omega
theorem fits3_norm {x y:Int} (h1:-18446744073709551615≤x∧x≤18446744073709551615) (h2:-18446744073709551615≤y∧y≤18446744073709551615):Fits 3 (normD x y):=by
 have a:=prod_bd h1.1 h1.2 h1.1 h1.2
 have b:=prod_bd h2.1 h2.2 h2.1 h2.2
 unfold Fits normD;rw [w3e];omega
def Held6C (wx:World) (K:Nat) (v0 v1 v2 v3 v4 v5:Value) (w':World):Prop :=
 Below wx.heap.size wx w'∧w'.cell? ⟨K,0,none⟩=some v0∧w'.cell? ⟨K,1,none⟩=some v1∧w'.cell? ⟨K,2,none⟩=some v2∧w'.cell? ⟨K,3,none⟩=some v3∧w'.cell? ⟨K,4,none⟩=some v4∧w'.cell? ⟨K,5,none⟩=some v5
theorem Held6C.keep {wx wk w':World} {K:Nat} {v0 v1 v2 v3 v4 v5:Value} (h:Held6C wx K v0 v1 v2 v3 v4 v5 wk) (hb:Below wk.heap.size wk w'):Held6C wx K v0 v1 v2 v3 v4 v5 w':=by
 have on:∀ {b o:Nat} {v:Value},wk.cell? ⟨b,o,none⟩=some v→w'.cell? ⟨b,o,none⟩=some v:=fun h=>(hb.cell (p:=⟨_,_,none⟩) (cell_lt h)).trans h
 obtain ⟨h0,h1,h2,h3,h4,h5,h6⟩:=h
 exact ⟨bl_step h0 hb,on h1,on h2,on h3,on h4,on h5,on h6⟩
theorem Sl.step {w w':World} {A:Option Addr} {xs:List Value} (h:Sl w w.heap.size A xs) (hb:Below w.heap.size w w'):Sl w' w'.heap.size A xs:=(h.below hb).more hb.size
theorem Sl.stepA {w w':World} {A:Option Addr} {xs:List Value} {o:Obj} (h:Sl w w.heap.size A xs) (hb:Below (w.alloc o).heap.size (w.alloc o) w'):Sl w' w'.heap.size A xs :=
 (h.step (bl_alloc (Below.refl _ _) o)).step hb
theorem u_ne6 {w:World} {B g:Nat} {A:Option Addr} {l:List Int} {x:Addr} {t:TypeId} (h:Sl w B A (uCs l)) (hl:0<l.length) (hA:A=some x) {v0 v1 v2 v3 v4 v5:Option Addr × Nat × Nat}
 (hb:Blk w g t #[.slice v0.1 v0.2.1 v0.2.2,.slice v1.1 v1.2.1 v1.2.2,.slice v2.1 v2.2.1 v2.2.2,.slice v3.1 v3.2.1 v3.2.2,.slice v4.1 v4.2.1 v4.2.2,.slice v5.1 v5.2.1 v5.2.2]):x.block≠g:=by
 rintro rfl
 obtain ⟨b,off,hA',_,hc⟩:=h.u hl
 rw [hA'] at hA
 cases hA
 obtain ⟨y,hy⟩:∃ y,l[0]?=some y:=⟨_,List.getElem?_eq_getElem hl⟩
 have c0:=hc 0 y hy
 have hcell:=cell_of_row w b (off+0) _ t (0,0) hb
 rw [c0] at hcell
 generalize off+0=i at hcell
 match i,hcell with
 | 0,h=>simp at h
 | 1,h=>simp at h
 | 2,h=>simp at h
 | 3,h=>simp at h
 | 4,h=>simp at h
 | 5,h=>simp at h
 | i+6,h=>simp at h
theorem Sl.six {w:World} {B K:Nat} {A:Option Addr} {l:List Int} {t:TypeId} (h:Sl w B A (uCs l)) (hl:0<l.length)
 (hb:Blk w K t #[.slice none 0 0,.slice none 0 0,.slice none 0 0,.slice none 0 0,.slice none 0 0,.slice none 0 0]) (u0 u1 u2 u3 u4 u5:Value) :
 Sl ((((((w.setCell ⟨K,0,none⟩ u0).setCell ⟨K,1,none⟩ u1).setCell ⟨K,2,none⟩ u2).setCell ⟨K,3,none⟩ u3).setCell ⟨K,4,none⟩ u4).setCell ⟨K,5,none⟩ u5) B A (uCs l):=by
 have hne:∀ (x:Addr),A=some x→x.block≠K:=fun x hx=>u_ne6 (v0:=(none,0,0)) (v1:=(none,0,0)) (v2:=(none,0,0)) (v3:=(none,0,0)) (v4:=(none,0,0)) (v5:=(none,0,0)) h hl hx hb
 exact (((((h.far (p:=⟨K,0,none⟩) (fun _ z hz=>hne z hz) u0).far (p:=⟨K,1,none⟩) (fun _ z hz=>hne z hz) u1).far (p:=⟨K,2,none⟩) (fun _ z hz=>hne z hz) u2).far (p:=⟨K,3,none⟩) (fun _ z hz=>hne z hz) u3).far (p:=⟨K,4,none⟩) (fun _ z hz=>hne z hz) u4).far (p:=⟨K,5,none⟩) (fun _ z hz=>hne z hz) u5
theorem blk_six {w:World} {K:Nat} {t:TypeId}
 (hb:Blk w K t #[.slice none 0 0,.slice none 0 0,.slice none 0 0,.slice none 0 0,.slice none 0 0,.slice none 0 0]) (u0 u1 u2 u3 u4 u5:Value) :
 Blk ((((((w.setCell ⟨K,0,none⟩ u0).setCell ⟨K,1,none⟩ u1).setCell ⟨K,2,none⟩ u2).setCell ⟨K,3,none⟩ u3).setCell ⟨K,4,none⟩ u4).setCell ⟨K,5,none⟩ u5) K t #[u0,u1,u2,u3,u4,u5] :=
 (((((hb.set 0 u0).set 1 u1).set 2 u2).set 3 u3).set 4 u4).set 5 u5
def Laid6 (w0 wx:World) (u:Value) (xa ya xb yb xc yc:Int):Prop :=
 ∃ (K:Nat) (A1 A2 A3 A4 A5 A6:Option Addr) (k1 k2 k3 k4 k5 k6:Nat),u=.pointer (some ⟨K,0,none⟩)∧Below w0.heap.size w0 wx∧Blk wx K 286 #[.slice A1 2 k1,.slice A2 2 k2,.slice A3 2 k3,.slice A4 2 k4,.slice A5 2 k5,.slice A6 2 k6] ∧
  (Sl wx wx.heap.size A1 (uCs (lims 2 xa))∧Sl wx wx.heap.size A2 (uCs (lims 2 ya)))∧(Sl wx wx.heap.size A3 (uCs (lims 2 xb))∧Sl wx wx.heap.size A4 (uCs (lims 2 yb)))∧(Sl wx wx.heap.size A5 (uCs (lims 2 xc))∧Sl wx wx.heap.size A6 (uCs (lims 2 yc)))
theorem laid6_stored {w0 w:World} {K:Nat} {xa ya xb yb xc yc:Int} {A1 A2 A3 A4 A5 A6:Option Addr} {k1 k2 k3 k4 k5 k6:Nat}
 (hb:Blk w K 286 #[.slice none 0 0,.slice none 0 0,.slice none 0 0,.slice none 0 0,.slice none 0 0,.slice none 0 0])
 (hB:Below w0.heap.size w0 ((((((w.setCell ⟨K,0,none⟩ (.slice A1 2 k1)).setCell ⟨K,1,none⟩ (.slice A2 2 k2)).setCell ⟨K,2,none⟩ (.slice A3 2 k3)).setCell ⟨K,3,none⟩ (.slice A4 2 k4)).setCell ⟨K,4,none⟩ (.slice A5 2 k5)).setCell ⟨K,5,none⟩ (.slice A6 2 k6)))
 (h1:Sl w w.heap.size A1 (uCs (lims 2 xa))) (h2:Sl w w.heap.size A2 (uCs (lims 2 ya))) (h3:Sl w w.heap.size A3 (uCs (lims 2 xb))) (h4:Sl w w.heap.size A4 (uCs (lims 2 yb))) (h5:Sl w w.heap.size A5 (uCs (lims 2 xc))) (h6:Sl w w.heap.size A6 (uCs (lims 2 yc))) :
 Laid6 w0 ((((((w.setCell ⟨K,0,none⟩ (.slice A1 2 k1)).setCell ⟨K,1,none⟩ (.slice A2 2 k2)).setCell ⟨K,2,none⟩ (.slice A3 2 k3)).setCell ⟨K,3,none⟩ (.slice A4 2 k4)).setCell ⟨K,4,none⟩ (.slice A5 2 k5)).setCell ⟨K,5,none⟩ (.slice A6 2 k6)) (.pointer (some ⟨K,0,none⟩)) xa ya xb yb xc yc:=by
 have hl:∀ z,0<(lims 2 z).length:=fun z=>by rw [lims_length];omega
 have six:∀ {A:Option Addr} {z:Int},Sl w w.heap.size A (uCs (lims 2 z))→Sl ((((((w.setCell ⟨K,0,none⟩ (.slice A1 2 k1)).setCell ⟨K,1,none⟩ (.slice A2 2 k2)).setCell ⟨K,2,none⟩ (.slice A3 2 k3)).setCell ⟨K,3,none⟩ (.slice A4 2 k4)).setCell ⟨K,4,none⟩ (.slice A5 2 k5)).setCell ⟨K,5,none⟩ (.slice A6 2 k6)) ((((((w.setCell ⟨K,0,none⟩ (.slice A1 2 k1)).setCell ⟨K,1,none⟩ (.slice A2 2 k2)).setCell ⟨K,2,none⟩ (.slice A3 2 k3)).setCell ⟨K,3,none⟩ (.slice A4 2 k4)).setCell ⟨K,4,none⟩ (.slice A5 2 k5)).setCell ⟨K,5,none⟩ (.slice A6 2 k6)).heap.size A (uCs (lims 2 z)):=fun h=>by
  have h':=h.six (hl _) hb (.slice A1 2 k1) (.slice A2 2 k2) (.slice A3 2 k3) (.slice A4 2 k4) (.slice A5 2 k5) (.slice A6 2 k6)
  simpa only [World.size_setCell] using h'
 exact ⟨K,A1,A2,A3,A4,A5,A6,k1,k2,k3,k4,k5,k6,rfl,hB,blk_six hb _ _ _ _ _ _,⟨six h1,six h2⟩,⟨six h3,six h4⟩,⟨six h5,six h6⟩⟩
theorem laid6_made {w0 w:World} {xa ya xb yb xc yc:Int} {A1 A2 A3 A4 A5 A6:Option Addr} {k1 k2 k3 k4 k5 k6:Nat}
 (hB:Below w0.heap.size w0 (w.alloc (.cells #[.slice A1 2 k1,.slice A2 2 k2,.slice A3 2 k3,.slice A4 2 k4,.slice A5 2 k5,.slice A6 2 k6] 286)))
 (h1:Sl w w.heap.size A1 (uCs (lims 2 xa))) (h2:Sl w w.heap.size A2 (uCs (lims 2 ya))) (h3:Sl w w.heap.size A3 (uCs (lims 2 xb))) (h4:Sl w w.heap.size A4 (uCs (lims 2 yb))) (h5:Sl w w.heap.size A5 (uCs (lims 2 xc))) (h6:Sl w w.heap.size A6 (uCs (lims 2 yc))) :
 Laid6 w0 (w.alloc (.cells #[.slice A1 2 k1,.slice A2 2 k2,.slice A3 2 k3,.slice A4 2 k4,.slice A5 2 k5,.slice A6 2 k6] 286)) (.pointer (some ⟨w.heap.size,0,none⟩)) xa ya xb yb xc yc :=
 have al:=bl_alloc (Below.refl w.heap.size w) (.cells #[.slice A1 2 k1,.slice A2 2 k2,.slice A3 2 k3,.slice A4 2 k4,.slice A5 2 k5,.slice A6 2 k6] 286)
 ⟨w.heap.size,A1,A2,A3,A4,A5,A6,k1,k2,k3,k4,k5,k6,rfl,hB,Blk.new _ _ _,⟨h1.step al,h2.step al⟩,⟨h3.step al,h4.step al⟩,⟨h5.step al,h6.step al⟩⟩
theorem cval_any (a b c d:Pt) (ha:PJ a) (hb:PJ b) (hc:PJ c) (hd:PJ d) (w:World) :
 Calls Tryz.prog 188 #[.agg #[.int .i64 a.1,.int .i64 a.2],.agg #[.int .i64 b.1,.int .i64 b.2],.agg #[.int .i64 c.1,.int .i64 c.2],.agg #[.int .i64 d.1,.int .i64 d.2]] w (GaveN 5 (circleD a b c d) w):=by
 obtain ⟨w0,hw0⟩:∃ w0,w0=(((w.alloc (.cells #[.int .i64 a.1,.int .i64 a.2] 41)).alloc (.cells #[.int .i64 b.1,.int .i64 b.2] 41)).alloc (.cells #[.int .i64 c.1,.int .i64 c.2] 41)).alloc (.cells #[.int .i64 d.1,.int .i64 d.2] 41):=⟨_,rfl⟩
 have hb0:Below w.heap.size w w0:=by rw [hw0];exact bl_alloc (bl_alloc (bl_alloc (bA) _) _) _
 have PA:Blk w0 w.heap.size 41 #[.int .i64 a.1,.int .i64 a.2]:=by rw [hw0];exact (((Blk.new _ _ _).alloc _).alloc _).alloc _
 have PB:Blk w0 (w.heap.size+1) 41 #[.int .i64 b.1,.int .i64 b.2]:=by rw [hw0];exact ((Blk.new2 _ _ _ _).alloc _).alloc _
 have PC:Blk w0 (w.heap.size+1+1) 41 #[.int .i64 c.1,.int .i64 c.2]:=by
  rw [hw0]
  have h:=Blk.new ((w.alloc (.cells #[.int .i64 a.1,.int .i64 a.2] 41)).alloc (.cells #[.int .i64 b.1,.int .i64 b.2] 41)) 41 #[.int .i64 c.1,.int .i64 c.2]
  have h2:=h.alloc (.cells #[.int .i64 d.1,.int .i64 d.2] 41)
  simpa using h2
 have PD4:Blk w0 (w.heap.size+1+1+1) 41 #[.int .i64 d.1,.int .i64 d.2]:=by
  rw [hw0]
  have h:=Blk.new (((w.alloc (.cells #[.int .i64 a.1,.int .i64 a.2] 41)).alloc (.cells #[.int .i64 b.1,.int .i64 b.2] 41)).alloc (.cells #[.int .i64 c.1,.int .i64 c.2] 41)) 41 #[.int .i64 d.1,.int .i64 d.2]
  simpa using h
 have HB1:=hide (fun wk=>between_any d.1 d.2 a.1 a.2 hd.1 hd.2 ha.1 ha.2 wk)
 have HB2:=hide (fun wk=>between_any d.1 d.2 b.1 b.2 hd.1 hd.2 hb.1 hb.2 wk)
 have HB3:=hide (fun wk=>between_any d.1 d.2 c.1 c.2 hd.1 hd.2 hc.1 hc.2 wk)
 have hl:w.heap.size<w0.heap.size∧w.heap.size+1<w0.heap.size∧w.heap.size+1+1<w0.heap.size∧w.heap.size+1+1+1<w0.heap.size:=⟨PA.lt,PB.lt,PC.lt,PD4.lt⟩
 have h00:Held4P w0 w.heap.size (w.heap.size+1) (w.heap.size+1+1) (w.heap.size+1+1+1) a.1 a.2 b.1 b.2 c.1 c.2 d.1 d.2 w0:=⟨Below.refl _ _,PA.cell (i:=0) rfl,PA.cell (i:=1) rfl,PB.cell (i:=0) rfl,PB.cell (i:=1) rfl,PC.cell (i:=0) rfl,PC.cell (i:=1) rfl,PD4.cell (i:=0) rfl,PD4.cell (i:=1) rfl⟩
 have HNO:Hid (∀ (A1 A2:Option Addr) (c1 c2:Nat) (x y:Int) (wk:World),(-18446744073709551615≤x∧x≤18446744073709551615)→(-18446744073709551615≤y∧y≤18446744073709551615)→Sl wk wk.heap.size A1 (uCs (lims 2 x))→Sl wk wk.heap.size A2 (uCs (lims 2 y)) →
  Calls Tryz.prog 252 #[.agg #[.slice A1 2 c1,.slice A2 2 c2]] wk (GaveN 4 (normD x y) wk)) :=
  hide fun A1 A2 c1 c2 x y wk hx hy h1 h2=>norm_any x y (by unfold Fits;rw [w2];omega) (by unfold Fits;rw [w2];omega) A1 A2 c1 c2 wk h1 h2
 have HCR:Hid (∀ (A1 A2 A3 A4:Option Addr) (c1 c2 c3 c4:Nat) (ux uy vx vy:Int) (wk:World),(-18446744073709551615≤ux∧ux≤18446744073709551615)→(-18446744073709551615≤uy∧uy≤18446744073709551615)→(-18446744073709551615≤vx∧vx≤18446744073709551615)→(-18446744073709551615≤vy∧vy≤18446744073709551615)→Sl wk wk.heap.size A1 (uCs (lims 2 ux))→Sl wk wk.heap.size A2 (uCs (lims 2 uy))→Sl wk wk.heap.size A3 (uCs (lims 2 vx))→Sl wk wk.heap.size A4 (uCs (lims 2 vy)) →
  Calls Tryz.prog 249 #[.agg #[.slice A1 2 c1,.slice A2 2 c2],.agg #[.slice A3 2 c3,.slice A4 2 c4]] wk (GaveN 4 (crossD ux uy vx vy) wk)) :=
  hide fun A1 A2 A3 A4 c1 c2 c3 c4 ux uy vx vy wk b1 b2 b3 b4 h1 h2 h3 h4=>cross_any _ _ _ _ (by unfold Fits;rw [w2];omega) (by unfold Fits;rw [w2];omega) (by unfold Fits;rw [w2];omega) (by unfold Fits;rw [w2];omega) A1 A2 A3 A4 c1 c2 c3 c4 wk h1 h2 h3 h4
 have HX3:Hid (∀ (A:Option Addr) (k:Nat) (v:Int) (wk:World),Sl wk wk.heap.size A (uCs (lims 4 v))→Calls Tryz.prog 248 #[.slice A 4 k,.int .i64 3] wk (GaveN 3 v wk)) :=
  hide fun A k v wk h=>callsN (extend_any 4 3 _ (.inr (by omega)) (by omega) (by omega) (by omega) (by omega) A k wk h)
 have HX5:Hid (∀ (A:Option Addr) (k:Nat) (v:Int) (wk:World),Sl wk wk.heap.size A (uCs (lims 6 v))→Calls Tryz.prog 248 #[.slice A 6 k,.int .i64 5] wk (GaveN 5 v wk)) :=
  hide fun A k v wk h=>callsN (extend_any 6 5 _ (.inr (by omega)) (by omega) (by omega) (by omega) (by omega) A k wk h)
 have HMU:Hid (∀ (A A':Option Addr) (k k':Nat) (x y:Int) (wk:World),Fits 3 x→Fits 3 y→Sl wk wk.heap.size A (uCs (lims 3 x))→Sl wk wk.heap.size A' (uCs (lims 3 y))→Calls Tryz.prog 254 #[.slice A 3 k,.slice A' 3 k'] wk (GaveN 6 (x*y) wk)) :=
  hide fun A A' k k' x y wk hx hy h h'=>callsN (lmul_any 3 3 x y (by omega) (by omega) (by omega) hx hy A A' k k' wk h h')
 have HAD:Hid (∀ (A A':Option Addr) (k k':Nat) (x y:Int) (wk:World),Sl wk wk.heap.size A (uCs (lims 5 x))→Sl wk wk.heap.size A' (uCs (lims 5 y))→Calls Tryz.prog 253 #[.slice A 5 k,.slice A' 5 k'] wk (GaveN 5 (x+y) wk)) :=
  hide fun A A' k k' x y wk h h'=>callsN (ladd_any 5 x y (by omega) (by omega) A A' k k' wk h h')
 have HFR:Hid (∀ wk,Calls Tryz.prog 251 #[.int .i64 0,.int .i64 5] wk (GaveN 5 0 wk)):=hide fun wk=>callsN (from_any 0 (by omega) (by omega) 5 (by omega) (by omega) wk)
 have HBD:=hide (show ((-18446744073709551615≤a.1 - d.1∧a.1 - d.1≤18446744073709551615)∧(-18446744073709551615≤a.2 - d.2∧a.2 - d.2≤18446744073709551615))∧((-18446744073709551615≤b.1 - d.1∧b.1 - d.1≤18446744073709551615)∧(-18446744073709551615≤b.2 - d.2∧b.2 - d.2≤18446744073709551615))∧((-18446744073709551615≤c.1 - d.1∧c.1 - d.1≤18446744073709551615)∧(-18446744073709551615≤c.2 - d.2∧c.2 - d.2≤18446744073709551615)) from
  ⟨⟨sub_bd ha.1 hd.1,sub_bd ha.2 hd.2⟩,⟨sub_bd hb.1 hd.1,sub_bd hb.2 hd.2⟩,⟨sub_bd hc.1 hd.1,sub_bd hc.2 hd.2⟩⟩)
 have HL:=hide hl
 clear ha hb hc hd hl PA PB PC PD4
 obtain ⟨a,a'⟩:=a
 obtain ⟨b,b'⟩:=b
 obtain ⟨c,c'⟩:=c
 obtain ⟨d,d'⟩:=d
 dsimp only at *
 have hd0:=h00.keep (bl_drew (Below.refl _ _))
 go_enter Tryz.func188,Tryz.ntmps188
 go_wp2
 rw [← hw0]
 have HW0:=hide hw0
 clear hw0
 go_cut [9] from 14 to 23 (fun u wx=>Laid6 w0 wx u (a - d) (a' - d') (b - d) (b' - d') (c - d) (c' - d'))
 case first =>
  go_region_held3 (fun w'=>Below w0.heap.size w0 w'∧w'.cell? ⟨w.heap.size,0,none⟩=some (.int .i64 a)∧w'.cell? ⟨w.heap.size,1,none⟩=some (.int .i64 a')∧w'.cell? ⟨w.heap.size+1,0,none⟩=some (.int .i64 b)∧w'.cell? ⟨w.heap.size+1,1,none⟩=some (.int .i64 b')∧w'.cell? ⟨w.heap.size+1+1,0,none⟩=some (.int .i64 c)∧w'.cell? ⟨w.heap.size+1+1,1,none⟩=some (.int .i64 c')∧w'.cell? ⟨w.heap.size+1+1+1,0,none⟩=some (.int .i64 d)∧w'.cell? ⟨w.heap.size+1+1+1,1,none⟩=some (.int .i64 d'))
   (first | with_reducible exact Held4P.set6 HL.out (by assumption) (by have z1:=hb1.size;have z2:=hb2.size;have z3:=hb3.size;simp only [World.drew] at z1 z2 z3;omega) _ _ _ _ _ _ | with_reducible exact hd0 | with_reducible exact h00 | with_reducible exact Held4P.keep (by assumption) (by assumption) | with_reducible exact hd0.keep (by assumption) | with_reducible exact Held4P.keep (by assumption) (bA) | with_reducible exact hd0.keep (bA) | with_reducible exact Held4P.realloc HL.out (by assumption) (by have z1:=hb1.size;have z2:=hb2.size;have z3:=hb3.size;simp only [World.drew] at z1 z2 z3;omega))
   (first
     | (go_at_call 250;((with_reducible refine (HB1.out _).mono ?_);rintro e w' ⟨A1,k1,A2,k2,rfl,hb1,hs1,hs2⟩;unfold vecVal;(first | (have hN:=alloc_kept_drew hb1;have z0:=hN.cell (i:=0) rfl;have z1:=hN.cell (i:=1) rfl;have z2:=hN.cell (i:=2) rfl;have z3:=hN.cell (i:=3) rfl;have z4:=hN.cell (i:=4) rfl;have z5:=hN.cell (i:=5) rfl;have y0:=hN.frozen 0;have y1:=hN.frozen 1;have y2:=hN.frozen 2;have y3:=hN.frozen 3;have y4:=hN.frozen 4;have y5:=hN.frozen 5) | skip)))
     | (go_at_call 250;((with_reducible refine (HB2.out _).mono ?_);rintro e w' ⟨A3,k3,A4,k4,rfl,hb2,hs3,hs4⟩;unfold vecVal;(first | (have hN:=alloc_kept hb2;have z0:=hN.cell (i:=0) rfl;have z1:=hN.cell (i:=1) rfl;have z2:=hN.cell (i:=2) rfl;have z3:=hN.cell (i:=3) rfl;have z4:=hN.cell (i:=4) rfl;have z5:=hN.cell (i:=5) rfl;have y0:=hN.frozen 0;have y1:=hN.frozen 1;have y2:=hN.frozen 2;have y3:=hN.frozen 3;have y4:=hN.frozen 4;have y5:=hN.frozen 5) | (have hN:=hN.step hb2;have z0:=hN.cell (i:=0) rfl;have z1:=hN.cell (i:=1) rfl;have z2:=hN.cell (i:=2) rfl;have z3:=hN.cell (i:=3) rfl;have z4:=hN.cell (i:=4) rfl;have z5:=hN.cell (i:=5) rfl;have y0:=hN.frozen 0;have y1:=hN.frozen 1;have y2:=hN.frozen 2;have y3:=hN.frozen 3;have y4:=hN.frozen 4;have y5:=hN.frozen 5) | skip)))
     | (go_at_call 250;((with_reducible refine (HB3.out _).mono ?_);rintro e w' ⟨A5,k5,A6,k6,rfl,hb3,hs5,hs6⟩;unfold vecVal;(first | (have hN:=alloc_kept hb3;have z0:=hN.cell (i:=0) rfl;have z1:=hN.cell (i:=1) rfl;have z2:=hN.cell (i:=2) rfl;have z3:=hN.cell (i:=3) rfl;have z4:=hN.cell (i:=4) rfl;have z5:=hN.cell (i:=5) rfl;have y0:=hN.frozen 0;have y1:=hN.frozen 1;have y2:=hN.frozen 2;have y3:=hN.frozen 3;have y4:=hN.frozen 4;have y5:=hN.frozen 5) | (have hN:=hN.step hb3;have z0:=hN.cell (i:=0) rfl;have z1:=hN.cell (i:=1) rfl;have z2:=hN.cell (i:=2) rfl;have z3:=hN.cell (i:=3) rfl;have z4:=hN.cell (i:=4) rfl;have z5:=hN.cell (i:=5) rfl;have y0:=hN.frozen 0;have y1:=hN.frozen 1;have y2:=hN.frozen 2;have y3:=hN.frozen 3;have y4:=hN.frozen 4;have y5:=hN.frozen 5) | skip))))
  all_goals
   have g1:=(by first | with_reducible exact hs1.step hb2 | with_reducible exact hs1.stepA hb2:Sl _ _ A1 (uCs (lims 2 (a - d))))
   have g2:=(by first | with_reducible exact hs2.step hb2 | with_reducible exact hs2.stepA hb2:Sl _ _ A2 (uCs (lims 2 (a' - d'))))
   have f1:=(by first | with_reducible exact g1.step hb3 | with_reducible exact g1.stepA hb3:Sl _ _ A1 (uCs (lims 2 (a - d))))
   have f2:=(by first | with_reducible exact g2.step hb3 | with_reducible exact g2.stepA hb3:Sl _ _ A2 (uCs (lims 2 (a' - d'))))
   have f3:=(by first | with_reducible exact hs3.step hb3 | with_reducible exact hs3.stepA hb3:Sl _ _ A3 (uCs (lims 2 (b - d))))
   have f4:=(by first | with_reducible exact hs4.step hb3 | with_reducible exact hs4.stepA hb3:Sl _ _ A4 (uCs (lims 2 (b' - d'))))
   rename_i hHeldL
   have hBB:=hHeldL.1
   (first | (with_reducible have FIN:=hide (laid6_stored hN hBB f1 f2 f3 f4 hs5 hs6)) | (with_reducible have FIN:=hide (laid6_made hBB f1 f2 f3 f4 hs5 hs6)))
   clear hHeldL hBB f1 f2 f3 f4 g1 g2 hs1 hs2 hs3 hs4 hs5 hs6 hb1 hb2 hb3
  all_goals go_wp2_with fail
  all_goals go_meet
  all_goals exact FIN.out
 case rest =>
  obtain ⟨K,A1,A2,A3,A4,A5,A6,k1,k2,k3,k4,k5,k6,rfl,hbx,RB0,⟨s1,s2⟩,⟨s3,s4⟩,⟨s5,s6⟩⟩:=hcut
  have RB:=hide RB0
  have HN0:Hid (∀ wk,Below wc.heap.size wc wk→Calls Tryz.prog 252 #[.agg #[.slice A1 2 k1,.slice A2 2 k2]] wk (GaveN 4 (normD (a - d) (a' - d')) wk)) :=
   hide fun wk hk=>HNO.out A1 A2 k1 k2 _ _ wk HBD.out.1.1 HBD.out.1.2 (s1.step hk) (s2.step hk)
  have HC0:Hid (∀ wk,Below wc.heap.size wc wk→Calls Tryz.prog 249 #[.agg #[.slice A3 2 k3,.slice A4 2 k4],.agg #[.slice A5 2 k5,.slice A6 2 k6]] wk (GaveN 4 (crossD (b - d) (b' - d') (c - d) (c' - d')) wk)) :=
   hide fun wk hk=>HCR.out A3 A4 A5 A6 k3 k4 k5 k6 _ _ _ _ wk HBD.out.2.1.1 HBD.out.2.1.2 HBD.out.2.2.1 HBD.out.2.2.2 (s3.step hk) (s4.step hk) (s5.step hk) (s6.step hk)
  have HF0:Hid (Fits 3 (normD (a - d) (a' - d'))∧Fits 3 (crossD (b - d) (b' - d') (c - d) (c' - d'))):=hide ⟨fits3_norm HBD.out.1.1 HBD.out.1.2,fits3_cross HBD.out.2.1.1 HBD.out.2.1.2 HBD.out.2.2.1 HBD.out.2.2.2⟩
  have HN1:Hid (∀ wk,Below wc.heap.size wc wk→Calls Tryz.prog 252 #[.agg #[.slice A3 2 k3,.slice A4 2 k4]] wk (GaveN 4 (normD (b - d) (b' - d')) wk)) :=
   hide fun wk hk=>HNO.out A3 A4 k3 k4 _ _ wk HBD.out.2.1.1 HBD.out.2.1.2 (s3.step hk) (s4.step hk)
  have HC1:Hid (∀ wk,Below wc.heap.size wc wk→Calls Tryz.prog 249 #[.agg #[.slice A5 2 k5,.slice A6 2 k6],.agg #[.slice A1 2 k1,.slice A2 2 k2]] wk (GaveN 4 (crossD (c - d) (c' - d') (a - d) (a' - d')) wk)) :=
   hide fun wk hk=>HCR.out A5 A6 A1 A2 k5 k6 k1 k2 _ _ _ _ wk HBD.out.2.2.1 HBD.out.2.2.2 HBD.out.1.1 HBD.out.1.2 (s5.step hk) (s6.step hk) (s1.step hk) (s2.step hk)
  have HF1:Hid (Fits 3 (normD (b - d) (b' - d'))∧Fits 3 (crossD (c - d) (c' - d') (a - d) (a' - d'))):=hide ⟨fits3_norm HBD.out.2.1.1 HBD.out.2.1.2,fits3_cross HBD.out.2.2.1 HBD.out.2.2.2 HBD.out.1.1 HBD.out.1.2⟩
  have HN2:Hid (∀ wk,Below wc.heap.size wc wk→Calls Tryz.prog 252 #[.agg #[.slice A5 2 k5,.slice A6 2 k6]] wk (GaveN 4 (normD (c - d) (c' - d')) wk)) :=
   hide fun wk hk=>HNO.out A5 A6 k5 k6 _ _ wk HBD.out.2.2.1 HBD.out.2.2.2 (s5.step hk) (s6.step hk)
  have HC2:Hid (∀ wk,Below wc.heap.size wc wk→Calls Tryz.prog 249 #[.agg #[.slice A1 2 k1,.slice A2 2 k2],.agg #[.slice A3 2 k3,.slice A4 2 k4]] wk (GaveN 4 (crossD (a - d) (a' - d') (b - d) (b' - d')) wk)) :=
   hide fun wk hk=>HCR.out A1 A2 A3 A4 k1 k2 k3 k4 _ _ _ _ wk HBD.out.1.1 HBD.out.1.2 HBD.out.2.1.1 HBD.out.2.1.2 (s1.step hk) (s2.step hk) (s3.step hk) (s4.step hk)
  have HF2:Hid (Fits 3 (normD (c - d) (c' - d'))∧Fits 3 (crossD (a - d) (a' - d') (b - d) (b' - d'))):=hide ⟨fits3_norm HBD.out.2.2.1 HBD.out.2.2.2,fits3_cross HBD.out.1.1 HBD.out.1.2 HBD.out.2.1.1 HBD.out.2.1.2⟩
  have HBX:=hide (bl_step hb0 hbx)
  clear s1 s2 s3 s4 s5 s6 RB0 HBD HNO HCR HB1 HB2 HB3 h00 hd0 hbx hb0 HL
  go_wp2_with fail
  refine (HFR.out _).mono ?_
  rintro e w1 ⟨A0,k0,rfl,hb1,hs0⟩
  go_wp2
  go_loopw [10,25] (fun u i wr=>∃ (q:Int) (A:Option Addr) (kc:Nat),0≤q∧q≤3∧i=.int .i64 q∧u=.slice A 5 kc∧Below wc.heap.size wc wr∧Sl wr wr.heap.size A (uCs (lims 5 (psum (normD (a - d) (a' - d')*crossD (b - d) (b' - d') (c - d) (c' - d')) (normD (b - d) (b' - d')*crossD (c - d) (c' - d') (a - d) (a' - d')) (normD (c - d) (c' - d')*crossD (a - d) (a' - d') (b - d) (b' - d')) q.toNat))))
   (fun _ i _=>3 - (intOf i).toNat)
  case atStart=>exact ⟨0,A0,k0,by omega,by omega,rfl,rfl,hb1,hs0⟩
  case round =>
   clear hb1 hs0
   obtain ⟨q,A,kc,hq0,hq3,rfl,rfl,hbr,hsr⟩:=hrel
   have hk4:q=0∨q=1∨q=2∨q=3:=by omega
   clear hq0 hq3
   rcases hk4 with rfl | rfl | rfl | rfl
   · -- round 0
     have RW:=RB.out.step hbr
     have z0:wr.cell? ⟨K,0,none⟩=some (.slice A1 2 k1):=RW.cell (i:=0) rfl
     have z1:wr.cell? ⟨K,1,none⟩=some (.slice A2 2 k2):=RW.cell (i:=1) rfl
     have z2:wr.cell? ⟨K,2,none⟩=some (.slice A3 2 k3):=RW.cell (i:=2) rfl
     have z3:wr.cell? ⟨K,3,none⟩=some (.slice A4 2 k4):=RW.cell (i:=3) rfl
     have z4:wr.cell? ⟨K,4,none⟩=some (.slice A5 2 k5):=RW.cell (i:=4) rfl
     have z5:wr.cell? ⟨K,5,none⟩=some (.slice A6 2 k6):=RW.cell (i:=5) rfl
     have hd6:=Held6C.keep (wx:=wc) (K:=K) ⟨hbr,z0,z1,z2,z3,z4,z5⟩ (bl_drew (Below.refl _ _))
     have hbd:=bl_drew hbr
     have q1:(IntKind.i64.wrap 1).tmod 3=1:=by decide
     have q2:(IntKind.i64.wrap 2).tmod 3=2:=by decide
     clear RW
     go_wp2_with fail
     go_region_held3 (fun w'=>Below wc.heap.size wc w'∧w'.cell? ⟨K,0,none⟩=some (.slice A1 2 k1)∧w'.cell? ⟨K,1,none⟩=some (.slice A2 2 k2)∧w'.cell? ⟨K,2,none⟩=some (.slice A3 2 k3)∧w'.cell? ⟨K,3,none⟩=some (.slice A4 2 k4)∧w'.cell? ⟨K,4,none⟩=some (.slice A5 2 k5)∧w'.cell? ⟨K,5,none⟩=some (.slice A6 2 k6))
      (first | exact hd6 | exact Held6C.keep (by assumption) (by assumption) | exact hd6.keep (by assumption))
      (first
        | (go_at_call 249;((with_reducible refine (HC0.out _ hbd).mono ?_);rintro e w' ⟨A7,k7,rfl,hb2,hs7⟩))
        | (go_at_call 248;((with_reducible refine (HX3.out _ _ _ _ hs7).mono ?_);rintro e w' ⟨A8,k8,rfl,hb3,hs8⟩)))
     rename_i w2 hHeldL
     obtain ⟨w3,hw3⟩:∃ w3,w3=w':=⟨_,rfl⟩
     subst hw3
     clear hHeldL z0 z1 z2 z3 z4 z5 hd6 q1 q2
     have hB3:=bl_step (bl_step hbd hb2) hb3
     have RW:=RB.out.step hB3
     have z0:w3.cell? ⟨K,0,none⟩=some (.slice A1 2 k1):=RW.cell (i:=0) rfl
     have z1:w3.cell? ⟨K,1,none⟩=some (.slice A2 2 k2):=RW.cell (i:=1) rfl
     have z2:w3.cell? ⟨K,2,none⟩=some (.slice A3 2 k3):=RW.cell (i:=2) rfl
     have z3:w3.cell? ⟨K,3,none⟩=some (.slice A4 2 k4):=RW.cell (i:=3) rfl
     have z4:w3.cell? ⟨K,4,none⟩=some (.slice A5 2 k5):=RW.cell (i:=4) rfl
     have z5:w3.cell? ⟨K,5,none⟩=some (.slice A6 2 k6):=RW.cell (i:=5) rfl
     have hsA:=hide (((hsr.drew.step (w:=wr.drew) hb2).step hb3))
     have hsM:=hide hs8
     clear RW hbr hbd hs7 hs8 hsr hb2 hb3
     go_wp2_with fail
     refine (HN0.out _ hB3).mono ?_
     rintro e w4 ⟨A9,k9,rfl,hb4,hs9⟩
     clear z0 z1 z2 z3 z4 z5
     go_wp2_with fail
     refine (HX3.out _ _ _ _ hs9).mono ?_
     rintro e w5 ⟨A10,k10,rfl,hb5,hs10⟩
     have hM5:=hide ((hsM.out.step hb4).step hb5)
     have hA5:=hide ((hsA.out.step hb4).step hb5)
     have hB5:=bl_step (bl_step hB3 hb4) hb5
     clear hsM hsA hb4 hb5 hB3 hs9
     have C1:=hide (HMU.out _ _ k10 k8 _ _ _ HF0.out.1 HF0.out.2 hs10 hM5.out)
     clear hs10
     go_wp2_with fail
     refine C1.out.mono ?_
     rintro e w6 ⟨A11,k11,rfl,hb6,hs11⟩
     have C2:=hide (HX5.out _ k11 _ _ hs11)
     clear hs11 hM5
     go_wp2_with fail
     refine C2.out.mono ?_
     rintro e w7 ⟨A12,k12,rfl,hb7,hs12⟩
     have C3:=hide (HAD.out _ _ kc k12 _ _ _ ((hA5.out.step hb6).step hb7) hs12)
     clear hs12 hA5
     go_wp2_with fail
     refine C3.out.mono ?_
     rintro e w8 ⟨A13,k13,rfl,hb8,hs13⟩
     have hB8:=bl_step (bl_step (bl_step hB5 hb6) hb7) hb8
     have HS13:=hide hs13
     clear hs13 hb6 hb7 hb8 hB5 C1 C2 C3
     go_wp2
     go_roundw
     case rel=>exact ⟨1,A13,k13,by omega,by omega,rfl,rfl,hB8,HS13.out⟩
     case measure=>simp [intOf]
   · -- round 1
     have RW:=RB.out.step hbr
     have z0:wr.cell? ⟨K,0,none⟩=some (.slice A1 2 k1):=RW.cell (i:=0) rfl
     have z1:wr.cell? ⟨K,1,none⟩=some (.slice A2 2 k2):=RW.cell (i:=1) rfl
     have z2:wr.cell? ⟨K,2,none⟩=some (.slice A3 2 k3):=RW.cell (i:=2) rfl
     have z3:wr.cell? ⟨K,3,none⟩=some (.slice A4 2 k4):=RW.cell (i:=3) rfl
     have z4:wr.cell? ⟨K,4,none⟩=some (.slice A5 2 k5):=RW.cell (i:=4) rfl
     have z5:wr.cell? ⟨K,5,none⟩=some (.slice A6 2 k6):=RW.cell (i:=5) rfl
     have hd6:=Held6C.keep (wx:=wc) (K:=K) ⟨hbr,z0,z1,z2,z3,z4,z5⟩ (bl_drew (Below.refl _ _))
     have hbd:=bl_drew hbr
     have q1:(IntKind.i64.wrap 2).tmod 3=2:=by decide
     have q2:(IntKind.i64.wrap 3).tmod 3=0:=by decide
     clear RW
     go_wp2_with fail
     go_region_held3 (fun w'=>Below wc.heap.size wc w'∧w'.cell? ⟨K,0,none⟩=some (.slice A1 2 k1)∧w'.cell? ⟨K,1,none⟩=some (.slice A2 2 k2)∧w'.cell? ⟨K,2,none⟩=some (.slice A3 2 k3)∧w'.cell? ⟨K,3,none⟩=some (.slice A4 2 k4)∧w'.cell? ⟨K,4,none⟩=some (.slice A5 2 k5)∧w'.cell? ⟨K,5,none⟩=some (.slice A6 2 k6))
      (first | exact hd6 | exact Held6C.keep (by assumption) (by assumption) | exact hd6.keep (by assumption))
      (first
        | (go_at_call 249;((with_reducible refine (HC1.out _ hbd).mono ?_);rintro e w' ⟨A7,k7,rfl,hb2,hs7⟩))
        | (go_at_call 248;((with_reducible refine (HX3.out _ _ _ _ hs7).mono ?_);rintro e w' ⟨A8,k8,rfl,hb3,hs8⟩)))
     rename_i w2 hHeldL
     obtain ⟨w3,hw3⟩:∃ w3,w3=w':=⟨_,rfl⟩
     subst hw3
     clear hHeldL z0 z1 z2 z3 z4 z5 hd6 q1 q2
     have hB3:=bl_step (bl_step hbd hb2) hb3
     have RW:=RB.out.step hB3
     have z0:w3.cell? ⟨K,0,none⟩=some (.slice A1 2 k1):=RW.cell (i:=0) rfl
     have z1:w3.cell? ⟨K,1,none⟩=some (.slice A2 2 k2):=RW.cell (i:=1) rfl
     have z2:w3.cell? ⟨K,2,none⟩=some (.slice A3 2 k3):=RW.cell (i:=2) rfl
     have z3:w3.cell? ⟨K,3,none⟩=some (.slice A4 2 k4):=RW.cell (i:=3) rfl
     have z4:w3.cell? ⟨K,4,none⟩=some (.slice A5 2 k5):=RW.cell (i:=4) rfl
     have z5:w3.cell? ⟨K,5,none⟩=some (.slice A6 2 k6):=RW.cell (i:=5) rfl
     have hsA:=hide (((hsr.drew.step (w:=wr.drew) hb2).step hb3))
     have hsM:=hide hs8
     clear RW hbr hbd hs7 hs8 hsr hb2 hb3
     go_wp2_with fail
     refine (HN1.out _ hB3).mono ?_
     rintro e w4 ⟨A9,k9,rfl,hb4,hs9⟩
     clear z0 z1 z2 z3 z4 z5
     go_wp2_with fail
     refine (HX3.out _ _ _ _ hs9).mono ?_
     rintro e w5 ⟨A10,k10,rfl,hb5,hs10⟩
     have hM5:=hide ((hsM.out.step hb4).step hb5)
     have hA5:=hide ((hsA.out.step hb4).step hb5)
     have hB5:=bl_step (bl_step hB3 hb4) hb5
     clear hsM hsA hb4 hb5 hB3 hs9
     have C1:=hide (HMU.out _ _ k10 k8 _ _ _ HF1.out.1 HF1.out.2 hs10 hM5.out)
     clear hs10
     go_wp2_with fail
     refine C1.out.mono ?_
     rintro e w6 ⟨A11,k11,rfl,hb6,hs11⟩
     have C2:=hide (HX5.out _ k11 _ _ hs11)
     clear hs11 hM5
     go_wp2_with fail
     refine C2.out.mono ?_
     rintro e w7 ⟨A12,k12,rfl,hb7,hs12⟩
     have C3:=hide (HAD.out _ _ kc k12 _ _ _ ((hA5.out.step hb6).step hb7) hs12)
     clear hs12 hA5
     go_wp2_with fail
     refine C3.out.mono ?_
     rintro e w8 ⟨A13,k13,rfl,hb8,hs13⟩
     have hB8:=bl_step (bl_step (bl_step hB5 hb6) hb7) hb8
     have HS13:=hide hs13
     clear hs13 hb6 hb7 hb8 hB5 C1 C2 C3
     go_wp2
     go_roundw
     case rel=>exact ⟨2,A13,k13,by omega,by omega,rfl,rfl,hB8,HS13.out⟩
     case measure=>simp [intOf]
   · -- round 2
     have RW:=RB.out.step hbr
     have z0:wr.cell? ⟨K,0,none⟩=some (.slice A1 2 k1):=RW.cell (i:=0) rfl
     have z1:wr.cell? ⟨K,1,none⟩=some (.slice A2 2 k2):=RW.cell (i:=1) rfl
     have z2:wr.cell? ⟨K,2,none⟩=some (.slice A3 2 k3):=RW.cell (i:=2) rfl
     have z3:wr.cell? ⟨K,3,none⟩=some (.slice A4 2 k4):=RW.cell (i:=3) rfl
     have z4:wr.cell? ⟨K,4,none⟩=some (.slice A5 2 k5):=RW.cell (i:=4) rfl
     have z5:wr.cell? ⟨K,5,none⟩=some (.slice A6 2 k6):=RW.cell (i:=5) rfl
     have hd6:=Held6C.keep (wx:=wc) (K:=K) ⟨hbr,z0,z1,z2,z3,z4,z5⟩ (bl_drew (Below.refl _ _))
     have hbd:=bl_drew hbr
     have q1:(IntKind.i64.wrap 3).tmod 3=0:=by decide
     have q2:(IntKind.i64.wrap 4).tmod 3=1:=by decide
     clear RW
     go_wp2_with fail
     go_region_held3 (fun w'=>Below wc.heap.size wc w'∧w'.cell? ⟨K,0,none⟩=some (.slice A1 2 k1)∧w'.cell? ⟨K,1,none⟩=some (.slice A2 2 k2)∧w'.cell? ⟨K,2,none⟩=some (.slice A3 2 k3)∧w'.cell? ⟨K,3,none⟩=some (.slice A4 2 k4)∧w'.cell? ⟨K,4,none⟩=some (.slice A5 2 k5)∧w'.cell? ⟨K,5,none⟩=some (.slice A6 2 k6))
      (first | exact hd6 | exact Held6C.keep (by assumption) (by assumption) | exact hd6.keep (by assumption))
      (first
        | (go_at_call 249;((with_reducible refine (HC2.out _ hbd).mono ?_);rintro e w' ⟨A7,k7,rfl,hb2,hs7⟩))
        | (go_at_call 248;((with_reducible refine (HX3.out _ _ _ _ hs7).mono ?_);rintro e w' ⟨A8,k8,rfl,hb3,hs8⟩)))
     rename_i w2 hHeldL
     obtain ⟨w3,hw3⟩:∃ w3,w3=w':=⟨_,rfl⟩
     subst hw3
     clear hHeldL z0 z1 z2 z3 z4 z5 hd6 q1 q2
     have hB3:=bl_step (bl_step hbd hb2) hb3
     have RW:=RB.out.step hB3
     have z0:w3.cell? ⟨K,0,none⟩=some (.slice A1 2 k1):=RW.cell (i:=0) rfl
     have z1:w3.cell? ⟨K,1,none⟩=some (.slice A2 2 k2):=RW.cell (i:=1) rfl
     have z2:w3.cell? ⟨K,2,none⟩=some (.slice A3 2 k3):=RW.cell (i:=2) rfl
     have z3:w3.cell? ⟨K,3,none⟩=some (.slice A4 2 k4):=RW.cell (i:=3) rfl
     have z4:w3.cell? ⟨K,4,none⟩=some (.slice A5 2 k5):=RW.cell (i:=4) rfl
     have z5:w3.cell? ⟨K,5,none⟩=some (.slice A6 2 k6):=RW.cell (i:=5) rfl
     have hsA:=hide (((hsr.drew.step (w:=wr.drew) hb2).step hb3))
     have hsM:=hide hs8
     clear RW hbr hbd hs7 hs8 hsr hb2 hb3
     go_wp2_with fail
     refine (HN2.out _ hB3).mono ?_
     rintro e w4 ⟨A9,k9,rfl,hb4,hs9⟩
     clear z0 z1 z2 z3 z4 z5
     go_wp2_with fail
     refine (HX3.out _ _ _ _ hs9).mono ?_
     rintro e w5 ⟨A10,k10,rfl,hb5,hs10⟩
     have hM5:=hide ((hsM.out.step hb4).step hb5)
     have hA5:=hide ((hsA.out.step hb4).step hb5)
     have hB5:=bl_step (bl_step hB3 hb4) hb5
     clear hsM hsA hb4 hb5 hB3 hs9
     have C1:=hide (HMU.out _ _ k10 k8 _ _ _ HF2.out.1 HF2.out.2 hs10 hM5.out)
     clear hs10
     go_wp2_with fail
     refine C1.out.mono ?_
     rintro e w6 ⟨A11,k11,rfl,hb6,hs11⟩
     have C2:=hide (HX5.out _ k11 _ _ hs11)
     clear hs11 hM5
     go_wp2_with fail
     refine C2.out.mono ?_
     rintro e w7 ⟨A12,k12,rfl,hb7,hs12⟩
     have C3:=hide (HAD.out _ _ kc k12 _ _ _ ((hA5.out.step hb6).step hb7) hs12)
     clear hs12 hA5
     go_wp2_with fail
     refine C3.out.mono ?_
     rintro e w8 ⟨A13,k13,rfl,hb8,hs13⟩
     have hB8:=bl_step (bl_step (bl_step hB5 hb6) hb7) hb8
     have HS13:=hide hs13
     clear hs13 hb6 hb7 hb8 hB5 C1 C2 C3
     go_wp2
     go_roundw
     case rel=>exact ⟨3,A13,k13,by omega,by omega,rfl,rfl,hB8,HS13.out⟩
     case measure=>simp [intOf]
   · have HSR:=hide hsr
     clear hsr
     go_wp2
     go_ret
     exact ⟨A,kc,rfl,bl_step HBX.out hbr,HSR.out⟩
end
section
open Go.RowKit
theorem w5e:(18446744073709551616:Int) ^ 5=2135987035920910082395021706169552114602704522356652769947041607822219725780640550022962086936576:=by decide +kernel
theorem normD_bd {x y:Int} (h1:-18446744073709551615≤x∧x≤18446744073709551615) (h2:-18446744073709551615≤y∧y≤18446744073709551615):-680564733841876926852962238568698216450≤normD x y∧normD x y≤680564733841876926852962238568698216450:=by
 have a:=prod_bd h1.1 h1.2 h1.1 h1.2
 have b:=prod_bd h2.1 h2.2 h2.1 h2.2
 unfold normD
 omega
theorem fits5_circle {a b c d:Pt} (ha:PJ a) (hb:PJ b) (hc:PJ c) (hd:PJ d):Fits 5 (circleD a b c d):=by
 have a1:=sub_bd ha.1 hd.1
 have a2:=sub_bd ha.2 hd.2
 have b1:=sub_bd hb.1 hd.1
 have b2:=sub_bd hb.2 hd.2
 have c1:=sub_bd hc.1 hd.1
 have c2:=sub_bd hc.2 hd.2
 have p:=prod_bd (normD_bd a1 a2).1 (normD_bd a1 a2).2 (crossD_bd b1 b2 c1 c2).1 (crossD_bd b1 b2 c1 c2).2
 have q:=prod_bd (normD_bd b1 b2).1 (normD_bd b1 b2).2 (crossD_bd c1 c2 a1 a2).1 (crossD_bd c1 c2 a1 a2).2
 have r:=prod_bd (normD_bd c1 c2).1 (normD_bd c1 c2).2 (crossD_bd a1 a2 b1 b2).1 (crossD_bd a1 a2 b1 b2).2
 unfold Fits circleD
 rw [w5e]
 omega
theorem sign_bd (x:Int):x.sign=-1∨x.sign=0∨x.sign=1:=by
 rcases Int.lt_trichotomy x 0 with h | h | h
 · exact .inl (Int.sign_eq_neg_one_of_neg h)
 · subst h;exact .inr (.inl rfl)
 · exact .inr (.inr (Int.sign_eq_one_of_pos h))
theorem sign_mul_wrap (x y:Int):IntKind.i64.wrap (x.sign*y.sign)=x.sign*y.sign:=by
 rcases sign_bd x with h | h | h <;> rcases sign_bd y with h' | h' | h' <;> rw [h,h'] <;> decide
theorem csign_any (a b c d:Pt) (ha:PJ a) (hb:PJ b) (hc:PJ c) (hd:PJ d) (w:World) (hw:MW w) :
 Calls Tryz.prog 138 #[.agg #[.int .i64 a.1,.int .i64 a.2],.agg #[.int .i64 b.1,.int .i64 b.2],.agg #[.int .i64 c.1,.int .i64 c.2],.agg #[.int .i64 d.1,.int .i64 d.2]] w fun e w'=>e=.returned (.int .i64 (circleD a b c d).sign)∧Below w.heap.size w w':=by
 obtain ⟨w0,hw0⟩:∃ w0,w0=(((w.alloc (.cells #[.int .i64 a.1,.int .i64 a.2] 41)).alloc (.cells #[.int .i64 b.1,.int .i64 b.2] 41)).alloc (.cells #[.int .i64 c.1,.int .i64 c.2] 41)).alloc (.cells #[.int .i64 d.1,.int .i64 d.2] 41):=⟨_,rfl⟩
 have hb0:Below w.heap.size w w0:=by rw [hw0];exact bl_alloc (bl_alloc (bl_alloc (bA) _) _) _
 have HV:=hide (cval_any a b c d ha hb hc hd w0)
 have HF:=hide (fits5_circle ha hb hc hd)
 have HW:=hide (hw.step hb0)
 clear ha hb hc hd hw
 go_enter Tryz.func138,Tryz.ntmps138
 go_wp2_with fail
 rw [← hw0]
 have HW0:=hide hw0
 clear hw0
 refine HV.out.mono ?_
 rintro e w1 ⟨A1,c1,rfl,hb1,hs1⟩
 have hw1:=HW.out.step hb1
 have HS:=hide (lsign_any 5 _ HF.out (by omega) (by omega) A1 c1 w1 hs1 hw1.1 hw1.2)
 clear hs1 hw1
 go_wp2_with fail
 refine HS.out.mono ?_
 rintro e w2 ⟨rfl,hb2⟩
 go_wp2
 go_ret
 exact ⟨rfl,bl_step (bl_step hb0 hb1) hb2⟩
theorem cside_any (a b c d:Pt) (ha:PJ a) (hb:PJ b) (hc:PJ c) (hd:PJ d) (w:World) (hw:MW w) :
 Calls Tryz.prog 376 #[.agg #[.int .i64 a.1,.int .i64 a.2],.agg #[.int .i64 b.1,.int .i64 b.2],.agg #[.int .i64 c.1,.int .i64 c.2],.agg #[.int .i64 d.1,.int .i64 d.2]] w fun e w'=>e=.returned (.int .i64 ((circleD a b c d).sign*(orientD a b c).sign))∧Below w.heap.size w w':=by
 obtain ⟨w0,hw0⟩:∃ w0,w0=(((w.alloc (.cells #[.int .i64 a.1,.int .i64 a.2] 41)).alloc (.cells #[.int .i64 b.1,.int .i64 b.2] 41)).alloc (.cells #[.int .i64 c.1,.int .i64 c.2] 41)).alloc (.cells #[.int .i64 d.1,.int .i64 d.2] 41):=⟨_,rfl⟩
 have hb0:Below w.heap.size w w0:=by rw [hw0];exact bl_alloc (bl_alloc (bl_alloc (bA) _) _) _
 have PA:Blk w0 w.heap.size 41 #[.int .i64 a.1,.int .i64 a.2]:=by rw [hw0];exact (((Blk.new _ _ _).alloc _).alloc _).alloc _
 have PB:Blk w0 (w.heap.size+1) 41 #[.int .i64 b.1,.int .i64 b.2]:=by rw [hw0];exact ((Blk.new2 _ _ _ _).alloc _).alloc _
 have PC:Blk w0 (w.heap.size+1+1) 41 #[.int .i64 c.1,.int .i64 c.2]:=by
  rw [hw0]
  have h:=Blk.new ((w.alloc (.cells #[.int .i64 a.1,.int .i64 a.2] 41)).alloc (.cells #[.int .i64 b.1,.int .i64 b.2] 41)) 41 #[.int .i64 c.1,.int .i64 c.2]
  have h2:=h.alloc (.cells #[.int .i64 d.1,.int .i64 d.2] 41)
  simpa using h2
 have PD4:Blk w0 (w.heap.size+1+1+1) 41 #[.int .i64 d.1,.int .i64 d.2]:=by
  rw [hw0]
  have h:=Blk.new (((w.alloc (.cells #[.int .i64 a.1,.int .i64 a.2] 41)).alloc (.cells #[.int .i64 b.1,.int .i64 b.2] 41)).alloc (.cells #[.int .i64 c.1,.int .i64 c.2] 41)) 41 #[.int .i64 d.1,.int .i64 d.2]
  simpa using h
 have h00:Held4P w0 w.heap.size (w.heap.size+1) (w.heap.size+1+1) (w.heap.size+1+1+1) a.1 a.2 b.1 b.2 c.1 c.2 d.1 d.2 w0:=⟨Below.refl _ _,PA.cell (i:=0) rfl,PA.cell (i:=1) rfl,PB.cell (i:=0) rfl,PB.cell (i:=1) rfl,PC.cell (i:=0) rfl,PC.cell (i:=1) rfl,PD4.cell (i:=0) rfl,PD4.cell (i:=1) rfl⟩
 have HC:Hid (∀ wk,Below w0.heap.size w0 wk→Calls Tryz.prog 138 #[.agg #[.int .i64 a.1,.int .i64 a.2],.agg #[.int .i64 b.1,.int .i64 b.2],.agg #[.int .i64 c.1,.int .i64 c.2],.agg #[.int .i64 d.1,.int .i64 d.2]] wk fun e w'=>e=.returned (.int .i64 (circleD a b c d).sign)∧Below wk.heap.size wk w'):=hide fun wk hk=>csign_any a b c d ha hb hc hd wk ((hw.step hb0).step hk)
 have HO:Hid (∀ wk,Below w0.heap.size w0 wk→Calls Tryz.prog 137 #[.agg #[.int .i64 a.1,.int .i64 a.2],.agg #[.int .i64 b.1,.int .i64 b.2],.agg #[.int .i64 c.1,.int .i64 c.2]] wk fun e w'=>e=.returned (.int .i64 (orientD a b c).sign)∧Below wk.heap.size wk w'):=hide fun wk hk=>osign_any a b c ha hb hc wk ((hw.step hb0).step hk)
 have hwr:=sign_mul_wrap (circleD a b c d) (orientD a b c)
 clear ha hb hc hd hw PA PB PC PD4
 generalize hcs:(circleD a b c d).sign=cs at *
 generalize hos:(orientD a b c).sign=os at *
 obtain ⟨a,a'⟩:=a
 obtain ⟨b,b'⟩:=b
 obtain ⟨c,c'⟩:=c
 obtain ⟨d,d'⟩:=d
 dsimp only at *
 clear hcs hos
 have hd0:=h00.keep (bl_drew (Below.refl _ _))
 have hbd:=bl_drew (Below.refl w0.heap.size w0)
 go_enter Tryz.func376,Tryz.ntmps376
 go_wp2
 rw [← hw0]
 have HW0:=hide hw0
 clear hw0
 go_region_held3 (fun w'=>Below w0.heap.size w0 w'∧w'.cell? ⟨w.heap.size,0,none⟩=some (.int .i64 a)∧w'.cell? ⟨w.heap.size,1,none⟩=some (.int .i64 a')∧w'.cell? ⟨w.heap.size+1,0,none⟩=some (.int .i64 b)∧w'.cell? ⟨w.heap.size+1,1,none⟩=some (.int .i64 b')∧w'.cell? ⟨w.heap.size+1+1,0,none⟩=some (.int .i64 c)∧w'.cell? ⟨w.heap.size+1+1,1,none⟩=some (.int .i64 c')∧w'.cell? ⟨w.heap.size+1+1+1,0,none⟩=some (.int .i64 d)∧w'.cell? ⟨w.heap.size+1+1+1,1,none⟩=some (.int .i64 d'))
  (first | with_reducible exact hd0 | with_reducible exact h00 | with_reducible exact Held4P.keep (by assumption) (by assumption) | with_reducible exact hd0.keep (by assumption))
  (first
    | (go_at_call 138;((with_reducible refine (HC.out _ (by first | with_reducible exact hbd | with_reducible exact bl_step hbd hb2)).mono ?_);rintro e w' ⟨rfl,hb1⟩))
    | (go_at_call 137;((with_reducible refine (HO.out _ (by first | with_reducible exact hbd | with_reducible exact bl_step hbd hb1)).mono ?_);rintro e w' ⟨rfl,hb2⟩)))
 all_goals
  go_wp2
  go_ret
  first | exact ⟨rfl,bl_step (bl_step (bl_drew hb0) hb1) hb2⟩ | exact ⟨rfl,bl_step (bl_step (bl_drew hb0) hb2) hb1⟩
end
end Go.Proofs.YthnenedoblncjaaGreatDoor
