/- RefCirc -/
import Derived.Test.YthnenedoblncjaaGreatDoorPkA27
import Derived.Test.YthnenedoblncjaaGreatDoorPkA42
set_option maxRecDepth 1000000
set_option maxHeartbeats 8000000
namespace Go.Proofs.YthnenedoblncjaaGreatDoor
open Go.Proofs.Tryz
section
open Go.RowKit
abbrev YV(w:World)(n0 g1 g2 g:Nat)(P:Nat->Prop)(x1:Int)(A1:Option Addr)(c1:Nat)(x2:Int)(A2:Option Addr)(c2:Nat)(w':World):Prop :=
 (Below w.heap.size w w'/\n0<=w'.heap.size/\R2 w' g/\ZJ w' (fun k=>P k/\k≠g) x1 A1 c1/\ZJ w' (fun k=>P k/\k≠g) x2 A2 c2)/\w'.cell? ⟨g1,0,none⟩=some (.int .i64 x1.sign)/\w'.cell? ⟨g1,1,none⟩=some (.slice A1 (ZB x1.natAbs).length c1)/\w'.cell? ⟨g2,0,none⟩=some (.int .i64 x2.sign)/\w'.cell? ⟨g2,1,none⟩=some (.slice A2 (ZB x2.natAbs).length c2) /\
 w'.cell? ⟨g,0,none⟩=some (Cw w' ⟨g,0,none⟩)/\w'.cell? ⟨g,1,none⟩=some (Cw w' ⟨g,1,none⟩)/\w'.frozen? ⟨g,0,none⟩=false/\w'.frozen? ⟨g,1,none⟩=false
section
variable {w wk w':World}{n0 g1 g2 g:Nat}{P:Nat->Prop}{x1:Int}{A1:Option Addr}{c1:Nat}{x2:Int}{A2:Option Addr}{c2:Nat}
theorem YV.mk'(hb:Below w.heap.size w w')(hn:n0<=w'.heap.size)(hr:R2 w' g)(n1:ZJ w' (fun k=>P k/\k≠g) x1 A1 c1)(n2:ZJ w' (fun k=>P k/\k≠g) x2 A2 c2)(h1:w'.cell? ⟨g1,0,none⟩=some (.int .i64 x1.sign))(k1:w'.cell? ⟨g1,1,none⟩=some (.slice A1 (ZB x1.natAbs).length c1))(h2:w'.cell? ⟨g2,0,none⟩=some (.int .i64 x2.sign))(k2:w'.cell? ⟨g2,1,none⟩=some (.slice A2 (ZB x2.natAbs).length c2)):YV w n0 g1 g2 g P x1 A1 c1 x2 A2 c2 w':=by
 have hr':=hr;obtain ⟨u,v,hB⟩:=hr';exact ⟨⟨hb,hn,hr,n1,n2⟩,h1,k1,h2,k2,Cw.of (hB.q0 rfl),Cw.of (hB.q1 rfl),hB.frozen 0,hB.frozen 1⟩
theorem YV.keep(h:YV w n0 g1 g2 g P x1 A1 c1 x2 A2 c2 wk)(hb:Below wk.heap.size wk w'):YV w n0 g1 g2 g P x1 A1 c1 x2 A2 c2 w':=by
 have on:∀ {b o:Nat} {v:Value},wk.cell? ⟨b,o,none⟩=some v->w'.cell? ⟨b,o,none⟩=some v:=fun h=>(hb.cell (p:=⟨_,_,none⟩) (Zv h)).trans h;obtain ⟨⟨h0,hn,⟨u,v,hB⟩,n1,n2⟩,h1,k1,h2,k2,_⟩:=h;exact YV.mk' (Z9 h0 hb) (Nat.le_trans hn hb.size) ⟨u,v,hB.step hb⟩ (n1.step hb) (n2.step hb) (on h1) (on k1) (on h2) (on k2)
theorem YV.set2(h:YV w n0 g1 g2 g P x1 A1 c1 x2 A2 c2 wk)(hne:g1≠g/\g2≠g)(hg:w.heap.size<=g)(x y:Value):YV w n0 g1 g2 g P x1 A1 c1 x2 A2 c2 ((wk.setCell ⟨g,0,none⟩ x).setCell ⟨g,1,none⟩ y):=by
 have on:∀ {b o:Nat} {v:Value},b≠g->wk.cell? ⟨b,o,none⟩=some v->((wk.setCell ⟨g,0,none⟩ x).setCell ⟨g,1,none⟩ y).cell? ⟨b,o,none⟩=some v:=fun hb h=>by
  rw [World.cell?_of_block (Below.heap_setCell _ _ _ _ (by exact hb)),World.cell?_of_block (Below.heap_setCell _ _ _ _ (by exact hb))];exact h
 obtain ⟨⟨h0,hn,⟨u,v,hB⟩,n1,n2⟩,h1,k1,h2,k2,_⟩:=h;exact YV.mk' ((h0.setCell (by exact hg) _).setCell (by exact hg) _) (by simpa [World.size_setCell] using hn) ⟨_,_,(hB.set 0 x).set 1 y⟩ ((n1.set x).set y) ((n2.set x).set y) (on (by omega) h1) (on (by omega) k1) (on (by omega) h2) (on (by omega) k2)
theorem YV.below(h:YV w n0 g1 g2 g P x1 A1 c1 x2 A2 c2 wk):Below w.heap.size w wk:=h.1.1
theorem YV.big(h:YV w n0 g1 g2 g P x1 A1 c1 x2 A2 c2 wk):n0<=wk.heap.size:=h.1.2.1
theorem YV.oH(h:YV w n0 g1 g2 g P x1 A1 c1 x2 A2 c2 wk):ZJ wk (fun k=>P k/\k≠g) x1 A1 c1:=h.1.2.2.2.1
theorem YV.oI(h:YV w n0 g1 g2 g P x1 A1 c1 x2 A2 c2 wk):ZJ wk (fun k=>P k/\k≠g) x2 A2 c2:=h.1.2.2.2.2
theorem YV.row(h:YV w n0 g1 g2 g P x1 A1 c1 x2 A2 c2 wk):R2 wk g:=h.1.2.2.1
end
abbrev Za(w:World)(n0 g1 g2 g3 g4 g:Nat)(P:Nat->Prop)(x1:Int)(A1:Option Addr)(c1:Nat)(x2:Int)(A2:Option Addr)(c2:Nat)(x3:Int)(A3:Option Addr)(c3:Nat)(x4:Int)(A4:Option Addr)(c4:Nat)(w':World):Prop :=
 (Below w.heap.size w w'/\n0<=w'.heap.size/\R2 w' g/\ZJ w' (fun k=>P k/\k≠g) x1 A1 c1/\ZJ w' (fun k=>P k/\k≠g) x2 A2 c2/\ZJ w' (fun k=>P k/\k≠g) x3 A3 c3/\ZJ w' (fun k=>P k/\k≠g) x4 A4 c4)/\w'.cell? ⟨g1,0,none⟩=some (.int .i64 x1.sign)/\w'.cell? ⟨g1,1,none⟩=some (.slice A1 (ZB x1.natAbs).length c1)/\w'.cell? ⟨g2,0,none⟩=some (.int .i64 x2.sign)/\w'.cell? ⟨g2,1,none⟩=some (.slice A2 (ZB x2.natAbs).length c2)/\w'.cell? ⟨g3,0,none⟩=some (.int .i64 x3.sign)/\w'.cell? ⟨g3,1,none⟩=some (.slice A3 (ZB x3.natAbs).length c3)/\w'.cell? ⟨g4,0,none⟩=some (.int .i64 x4.sign)/\w'.cell? ⟨g4,1,none⟩=some (.slice A4 (ZB x4.natAbs).length c4) /\
 w'.cell? ⟨g,0,none⟩=some (Cw w' ⟨g,0,none⟩)/\w'.cell? ⟨g,1,none⟩=some (Cw w' ⟨g,1,none⟩)/\w'.frozen? ⟨g,0,none⟩=false/\w'.frozen? ⟨g,1,none⟩=false
section
variable {w wk w':World}{n0 g1 g2 g3 g4 g:Nat}{P:Nat->Prop}{x1:Int}{A1:Option Addr}{c1:Nat}{x2:Int}{A2:Option Addr}{c2:Nat}{x3:Int}{A3:Option Addr}{c3:Nat}{x4:Int}{A4:Option Addr}{c4:Nat}
theorem Za.mk'(hb:Below w.heap.size w w')(hn:n0<=w'.heap.size)(hr:R2 w' g)(n1:ZJ w' (fun k=>P k/\k≠g) x1 A1 c1)(n2:ZJ w' (fun k=>P k/\k≠g) x2 A2 c2)(n3:ZJ w' (fun k=>P k/\k≠g) x3 A3 c3)(n4:ZJ w' (fun k=>P k/\k≠g) x4 A4 c4)(h1:w'.cell? ⟨g1,0,none⟩=some (.int .i64 x1.sign))(k1:w'.cell? ⟨g1,1,none⟩=some (.slice A1 (ZB x1.natAbs).length c1))(h2:w'.cell? ⟨g2,0,none⟩=some (.int .i64 x2.sign))(k2:w'.cell? ⟨g2,1,none⟩=some (.slice A2 (ZB x2.natAbs).length c2))(h3:w'.cell? ⟨g3,0,none⟩=some (.int .i64 x3.sign))(k3:w'.cell? ⟨g3,1,none⟩=some (.slice A3 (ZB x3.natAbs).length c3))(h4:w'.cell? ⟨g4,0,none⟩=some (.int .i64 x4.sign))(k4:w'.cell? ⟨g4,1,none⟩=some (.slice A4 (ZB x4.natAbs).length c4)):Za w n0 g1 g2 g3 g4 g P x1 A1 c1 x2 A2 c2 x3 A3 c3 x4 A4 c4 w':=by
 have hr':=hr;obtain ⟨u,v,hB⟩:=hr';exact ⟨⟨hb,hn,hr,n1,n2,n3,n4⟩,h1,k1,h2,k2,h3,k3,h4,k4,Cw.of (hB.q0 rfl),Cw.of (hB.q1 rfl),hB.frozen 0,hB.frozen 1⟩
theorem Za.keep(h:Za w n0 g1 g2 g3 g4 g P x1 A1 c1 x2 A2 c2 x3 A3 c3 x4 A4 c4 wk)(hb:Below wk.heap.size wk w'):Za w n0 g1 g2 g3 g4 g P x1 A1 c1 x2 A2 c2 x3 A3 c3 x4 A4 c4 w':=by
 have on:∀ {b o:Nat} {v:Value},wk.cell? ⟨b,o,none⟩=some v->w'.cell? ⟨b,o,none⟩=some v:=fun h=>(hb.cell (p:=⟨_,_,none⟩) (Zv h)).trans h;obtain ⟨⟨h0,hn,⟨u,v,hB⟩,n1,n2,n3,n4⟩,h1,k1,h2,k2,h3,k3,h4,k4,_⟩:=h;exact Za.mk' (Z9 h0 hb) (Nat.le_trans hn hb.size) ⟨u,v,hB.step hb⟩ (n1.step hb) (n2.step hb) (n3.step hb) (n4.step hb) (on h1) (on k1) (on h2) (on k2) (on h3) (on k3) (on h4) (on k4)
theorem Za.set2(h:Za w n0 g1 g2 g3 g4 g P x1 A1 c1 x2 A2 c2 x3 A3 c3 x4 A4 c4 wk)(hne:g1≠g/\g2≠g/\g3≠g/\g4≠g)(hg:w.heap.size<=g)(x y:Value):Za w n0 g1 g2 g3 g4 g P x1 A1 c1 x2 A2 c2 x3 A3 c3 x4 A4 c4 ((wk.setCell ⟨g,0,none⟩ x).setCell ⟨g,1,none⟩ y):=by
 have on:∀ {b o:Nat} {v:Value},b≠g->wk.cell? ⟨b,o,none⟩=some v->((wk.setCell ⟨g,0,none⟩ x).setCell ⟨g,1,none⟩ y).cell? ⟨b,o,none⟩=some v:=fun hb h=>by
  rw [World.cell?_of_block (Below.heap_setCell _ _ _ _ (by exact hb)),World.cell?_of_block (Below.heap_setCell _ _ _ _ (by exact hb))];exact h
 obtain ⟨⟨h0,hn,⟨u,v,hB⟩,n1,n2,n3,n4⟩,h1,k1,h2,k2,h3,k3,h4,k4,_⟩:=h;exact Za.mk' ((h0.setCell (by exact hg) _).setCell (by exact hg) _) (by simpa [World.size_setCell] using hn) ⟨_,_,(hB.set 0 x).set 1 y⟩ ((n1.set x).set y) ((n2.set x).set y) ((n3.set x).set y) ((n4.set x).set y) (on (by omega) h1) (on (by omega) k1) (on (by omega) h2) (on (by omega) k2) (on (by omega) h3) (on (by omega) k3) (on (by omega) h4) (on (by omega) k4)
theorem Za.below(h:Za w n0 g1 g2 g3 g4 g P x1 A1 c1 x2 A2 c2 x3 A3 c3 x4 A4 c4 wk):Below w.heap.size w wk:=h.1.1
theorem Za.big(h:Za w n0 g1 g2 g3 g4 g P x1 A1 c1 x2 A2 c2 x3 A3 c3 x4 A4 c4 wk):n0<=wk.heap.size:=h.1.2.1
theorem Za.oH(h:Za w n0 g1 g2 g3 g4 g P x1 A1 c1 x2 A2 c2 x3 A3 c3 x4 A4 c4 wk):ZJ wk (fun k=>P k/\k≠g) x1 A1 c1:=h.1.2.2.2.1
theorem Za.oI(h:Za w n0 g1 g2 g3 g4 g P x1 A1 c1 x2 A2 c2 x3 A3 c3 x4 A4 c4 wk):ZJ wk (fun k=>P k/\k≠g) x2 A2 c2:=h.1.2.2.2.2.1
theorem Za.zqj(h:Za w n0 g1 g2 g3 g4 g P x1 A1 c1 x2 A2 c2 x3 A3 c3 x4 A4 c4 wk):ZJ wk (fun k=>P k/\k≠g) x3 A3 c3:=h.1.2.2.2.2.2.1
theorem Za.zqk(h:Za w n0 g1 g2 g3 g4 g P x1 A1 c1 x2 A2 c2 x3 A3 c3 x4 A4 c4 wk):ZJ wk (fun k=>P k/\k≠g) x4 A4 c4:=h.1.2.2.2.2.2.2
theorem Za.row(h:Za w n0 g1 g2 g3 g4 g P x1 A1 c1 x2 A2 c2 x3 A3 c3 x4 A4 c4 wk):R2 wk g:=h.1.2.2.1
end
theorem Qg(P:Nat->Prop)(x y N:Int)(hx:Xg x)(hy:Xg y)(hN:x*x+y*y=N)(w:World)(hP:Up w P):
 Calls prog 80 #[.agg #[.int .i64 x,.int .i64 y]] w (Ze P N w):=by
 obtain ⟨w0,hw0⟩:=eE ((w.alloc (.cells #[.int .i64 x,.int .i64 y] 41)).alloc (.cells #[.int .i64 0,.slice none 0 0] 81));have hb0:=bF hw0;have B1:Z6 w0 (w.heap.size) 41 #[.int .i64 x,.int .i64 y]:=by rw [hw0];exact (Z6.new _ _ _).alloc _
 have B2:Z6 w0 (w.heap.size+1) 81 #[.int .i64 0,.slice none 0 0]:=by rw [hw0];exact Z6.new2 _ _ _ _
 have hsz:w0.heap.size=w.heap.size+1+1:=by rw [hw0];simp
 have hU:∀ {wk:World},w.heap.size+1+1<=wk.heap.size->Up wk (fun k=>P k/\k≠w.heap.size+1):=fun hk=>hP.ne (by omega) (by omega);have b1:=Vq hx hx;have b2:=Vq hy hy;obtain ⟨p,hp⟩:=eE (x*x);obtain ⟨q,hq⟩:=eE (y*y);rw [<- hp] at b1 hN;rw [<- hq] at b2 hN;have HX:Hid (∀ wk,w.heap.size+1+1<=wk.heap.size->Calls prog 75 #[.int .i64 x] wk (Ze (fun k=>P k/\k≠w.heap.size+1) x wk)):=hide fun wk hk=>M0 _ x (by unfold Xg at hx;omega) wk (hU hk);have HY:Hid (∀ wk,w.heap.size+1+1<=wk.heap.size->Calls prog 75 #[.int .i64 y] wk (Ze (fun k=>P k/\k≠w.heap.size+1) y wk)):=hide fun wk hk=>M0 _ y (by unfold Xg at hy;omega) wk (hU hk);have lx:=dl4 hx;have ly:=dl4 hy
 have kW:Hid (∀ wk A c B d,w.heap.size+1+1<=wk.heap.size->ZJ wk (fun k=>P k/\k≠w.heap.size+1) x A c->ZJ wk (fun k=>P k/\k≠w.heap.size+1) x B d->Calls prog 74 #[.agg #[.int .i64 x.sign,.slice A (ZB x.natAbs).length c],.agg #[.int .i64 x.sign,.slice B (ZB x.natAbs).length d]] wk (Ze (fun k=>P k/\k≠w.heap.size+1) p wk)):=hide fun wk A c B d hk ha hb=>by
  have h:=Iz _ x x A B c d wk ha hb (by omega) (by omega) (hU hk);rw [<- hp] at h;exact h
 have wW:Hid (∀ wk A c B d,w.heap.size+1+1<=wk.heap.size->ZJ wk (fun k=>P k/\k≠w.heap.size+1) y A c->ZJ wk (fun k=>P k/\k≠w.heap.size+1) y B d->Calls prog 74 #[.agg #[.int .i64 y.sign,.slice A (ZB y.natAbs).length c],.agg #[.int .i64 y.sign,.slice B (ZB y.natAbs).length d]] wk (Ze (fun k=>P k/\k≠w.heap.size+1) q wk)):=hide fun wk A c B d hk ha hb=>by
  have h:=Iz _ y y A B c d wk ha hb (by omega) (by omega) (hU hk);rw [<- hq] at h;exact h
 have HM3:Hid (∀ wk A c B d,w.heap.size+1+1<=wk.heap.size->ZJ wk (fun k=>P k/\k≠w.heap.size+1) p A c->ZJ wk (fun k=>P k/\k≠w.heap.size+1) q B d->Calls prog 73 #[.agg #[.int .i64 p.sign,.slice A (ZB p.natAbs).length c],.agg #[.int .i64 q.sign,.slice B (ZB q.natAbs).length d]] wk (Ze (fun k=>P k/\k≠w.heap.size+1) N wk)):=hide fun wk A c B d hk ha hb=>by
  have h:=MQ _ p q A B c d wk ha hb (Nat.le_trans (dl (k:=8) (by omega)) (by omega)) (Nat.le_trans (dl (k:=8) (by omega)) (by omega)) (hU hk);rw [hN] at h;exact h
 have Va:=hide hsz;have HB0:=hide hb0;have HB2:=hide B2;have c0:=B1.q0 rfl;have Ru:Hid (w0.cell? ⟨w.heap.size,1,none⟩=some (.int .i64 y)):=hide (B1.q1 rfl);clear hx hy hN hP hU hb0 B1 B2 hsz hp hq b1 b2 lx ly;go_enter func80,ntmps80;go_wp2_with fail;rw [<- hw0];have HW0:=hide hw0;clear hw0;go_wp2_with fail;refine (HX.out _ (Nat.le_of_eq Va.out.symm)).mono ?_;rintro e w1 ⟨A1,k1,rfl,hN1,hb1⟩;unfold YQ;have c1:w1.cell? ⟨w.heap.size,1,none⟩=some (.int .i64 y):=(hb1.cell (p:=⟨_,_,none⟩) (Zv Ru.out)).trans Ru.out;clear c0;obtain ⟨w2,hw2⟩:=eE (w1.alloc (.cells #[.int .i64 x.sign,.slice A1 (ZB x.natAbs).length k1] 81));have BX:Z6 w2 w1.heap.size 81 #[.int .i64 x.sign,.slice A1 (ZB x.natAbs).length k1]:=by rw [hw2];exact Z6.new _ _ _
 have hb2:=bE hw2;have c2:w2.cell? ⟨w.heap.size,1,none⟩=some (.int .i64 y):=(hb2.cell (p:=⟨_,_,none⟩) (Zv c1)).trans c1;have c2a:=c2;rw [hw2] at c2a;have c1':=hide c1;have hb1':=hide hb1;have hb2':=hide hb2;have hn1':=hide (hN1.step hb2);have BX':=hide BX;have hz:w.heap.size+1+1<=w1.heap.size:=by have:=hb1.size;have:=Va.out;omega
 clear BX hb1 hb2 hN1;go_wp2_with fail;rw [<- hw2];have HW2:=hide hw2;clear hw2;refine (HY.out w2 (by have:=hb2'.out.size;omega)).mono ?_;rintro e w3 ⟨A2,k2,rfl,jT,hb3⟩;unfold YQ;obtain ⟨w4,hw4⟩:=eE (w3.alloc (.cells #[.int .i64 y.sign,.slice A2 (ZB y.natAbs).length k2] 81));have hb4:=bE hw4;have BY:Z6 w4 w3.heap.size 81 #[.int .i64 y.sign,.slice A2 (ZB y.natAbs).length k2]:=by rw [hw4];exact Z6.new _ _ _
 have BX4:=(BX'.out.step hb3).step hb4;have hz1:w1.heap.size<w2.heap.size:=BX'.out.lt;have hz3:w2.heap.size<=w3.heap.size:=hb3.size;have hz4:=hb4.size
 have h00:YV w (w.heap.size+1+1) w1.heap.size w3.heap.size (w.heap.size+1) P x A1 k1 y A2 k2 w4 :=
  YV.mk' (Z9 (Z9 (Z9 (Z9 HB0.out hb1'.out) hb2'.out) hb3) hb4) (by omega) ⟨_,_,(((HB2.out.step hb1'.out).step hb2'.out).step hb3).step hb4⟩ ((hn1'.out.step hb3).step hb4) (jT.step hb4) (BX4.q0 rfl) (BX4.q1 rfl) (BY.q0 rfl) (BY.q1 rfl)
 have hd0:=h00.keep (ZU (Below.refl _ _));clear BX4 BY hb3 hb4 jT c1 c2 c2a;go_wp2_with fail;rw [<- hw4];have HW4:=hide hw4;clear hw4
 go_region_held3 (fun w'=>(Below w.heap.size w w'/\(w.heap.size+1+1)<=w'.heap.size/\R2 w' (w.heap.size+1)/\ZJ w' (fun k=>P k/\k≠w.heap.size+1) x A1 k1/\ZJ w' (fun k=>P k/\k≠w.heap.size+1) y A2 k2)/\w'.cell? ⟨w1.heap.size,0,none⟩=some (.int .i64 x.sign)/\w'.cell? ⟨w1.heap.size,1,none⟩=some (.slice A1 (ZB x.natAbs).length k1)/\w'.cell? ⟨w3.heap.size,0,none⟩=some (.int .i64 y.sign)/\w'.cell? ⟨w3.heap.size,1,none⟩=some (.slice A2 (ZB y.natAbs).length k2) /\
  w'.cell? ⟨w.heap.size+1,0,none⟩=some (Cw w' ⟨w.heap.size+1,0,none⟩)/\w'.cell? ⟨w.heap.size+1,1,none⟩=some (Cw w' ⟨w.heap.size+1,1,none⟩)/\w'.frozen? ⟨w.heap.size+1,0,none⟩=false/\w'.frozen? ⟨w.heap.size+1,1,none⟩=false)
  (first|with_reducible exact sM|with_reducible exact hd0|with_reducible exact h00|with_reducible exact YV.keep (by assumption) (by assumption)|with_reducible exact hd0.keep (by assumption)|exact YV.set2 (by assumption) (by omega) (by omega) _ _)
  (first
    | (go_at_call 74;((with_reducible refine (kW.out _ A1 k1 A1 k1 (by first|exact YV.big (by assumption)) (by first|exact YV.oH (by assumption)) (by first|exact YV.oH (by assumption))).mono ?_);rintro e w5 ⟨A5,c5,rfl,UR,hb5⟩;unfold YQ))
    | (go_at_call 74;((with_reducible refine (wW.out _ A2 k2 A2 k2 (by first|exact YV.big (by assumption)) (by first|exact YV.oI (by assumption)) (by first|exact YV.oI (by assumption))).mono ?_);rintro e w6 ⟨A6,c6,rfl,NZ,hb6⟩;unfold YQ))
    | (go_at_call 73;((with_reducible refine (HM3.out _ A5 c5 A6 c6 (by first|exact YV.big (by assumption)) (by first|exact UR.step hb6|exact UR) (by first|exact NZ|exact NZ.step hb5)).mono ?_);rintro e w8 ⟨A8,c8,rfl,hN8,Sm⟩;have sM:=YV.keep (by assumption) Sm;unfold YQ)))
 all_goals
  go_wp2;exact bodyPost_ret (R2.run (YV.row sM) rfl rfl) rfl (XD (YV.below sM) (by omega) hN8)
end
section
open Go.RowKit
def Rx(wc wx:World)(P:Nat->Prop)(X:Int)(u:Value):Prop :=
 ∃ K A c,u=.pointer (some ⟨K,0,none⟩)/\Below wc.heap.size wc wx/\Z6 wx K 81 #[.int .i64 X.sign,.slice A (ZB X.natAbs).length c]/\ZJ wx P X A c/\wc.heap.size<=K
theorem PK{wk w':World}{cs:Array Value}{t:TypeId}(_hb:Below (wk.alloc (.cells cs t)).heap.size (wk.alloc (.cells cs t)) w'):wk.heap.size<(wk.alloc (.cells cs t)).heap.size:=(Z6.new wk t cs).lt
theorem ZJ.Tc{wk w':World}{P:Nat->Prop}{n:Int}{A:Option Addr}{c:Nat}{X:Obj}(h:ZJ wk P n A c)(hb:Below (wk.alloc X).heap.size (wk.alloc X) w'):ZJ w' P n A c:=(h.step (bA)).step hb
theorem ZJ.al{wk:World}{P:Nat->Prop}{n:Int}{A:Option Addr}{c:Nat}{X:Obj}(h:ZJ wk P n A c):ZJ (wk.alloc X) P n A c:=h.step (bA)
theorem Wd {wc w5 w6:World} {K:Nat} {z0 z1:Value} {P:Nat->Prop} {g:Nat} {X:Int} {A:Option Addr} {c:Nat}
 (hB:Below wc.heap.size wc ((w6.setCell ⟨K,0,none⟩ (.int .i64 X.sign)).setCell ⟨K,1,none⟩ (.slice A (ZB X.natAbs).length c))) (hM:Z6 w6 K 81 #[z0,z1]) (hK:K<w5.heap.size) (hn:ZJ w6 (fun k=>w5.heap.size<=k) X A c) (hU:Up w5 fun k=>P k/\k≠g) (hge:wc.heap.size<=K) :
 Rx wc ((w6.setCell ⟨K,0,none⟩ (.int .i64 X.sign)).setCell ⟨K,1,none⟩ (.slice A (ZB X.natAbs).length c)) (fun k=>P k/\k≠g) X (.pointer (some ⟨K,0,none⟩)):=by
 refine ⟨K,A,c,rfl,hB,(hM.set 0 _).set 1 _,?_,hge⟩;have h1:ZJ w6 (fun k=>(P k/\k≠g)/\k≠K) X A c:=hn.mono fun k hk=>⟨hU k hk,by omega⟩;exact ((h1.set (g:=K) _).set (g:=K) _).mono fun k hk=>hk.1
theorem Vg {wc w5 w6:World} {P:Nat->Prop} {g:Nat} {X:Int} {A:Option Addr} {c:Nat}
 (hB:Below wc.heap.size wc (w6.alloc (.cells #[.int .i64 X.sign,.slice A (ZB X.natAbs).length c] 81))) (hn:ZJ w6 (fun k=>w5.heap.size<=k) X A c) (hU:Up w5 fun k=>P k/\k≠g) (hge:wc.heap.size<=w6.heap.size) :
 Rx wc (w6.alloc (.cells #[.int .i64 X.sign,.slice A (ZB X.natAbs).length c] 81)) (fun k=>P k/\k≠g) X (.pointer (some ⟨w6.heap.size,0,none⟩)) :=
 ⟨_,A,c,rfl,hB,Z6.new _ _ _,(hn.mono fun k hk=>hU k hk).al,hge⟩
theorem AX(a b c d:Pt):((a.1*a.1+a.2*a.2)*(((c.1*d.2 - c.2*d.1) - (b.1*d.2 - b.2*d.1))+(b.1*c.2 - b.2*c.1)) - (b.1*b.1+b.2*b.2)*(((c.1*d.2 - c.2*d.1) - (a.1*d.2 - a.2*d.1))+(a.1*c.2 - a.2*c.1))) +
 ((c.1*c.1+c.2*c.2)*(((b.1*d.2 - b.2*d.1) - (a.1*d.2 - a.2*d.1))+(a.1*b.2 - a.2*b.1)) - (d.1*d.1+d.2*d.2)*(((b.1*c.2 - b.2*c.1) - (a.1*c.2 - a.2*c.1))+(a.1*b.2 - a.2*b.1)))=YI a b c d:=by
 unfold YI V9 XU
 grind
theorem M4{x y:Int}(hx:Xg x)(hy:Xg y):(x*x+y*y).natAbs<=170141183460469231731687303715884105728:=by
 have a:=Vq hx hx;have b:=Vq hy hy;omega
theorem Jq{x1 y1 x2 y2 x3 y3:Int}(h1:Xg x1/\Xg y1)(h2:Xg x2/\Xg y2)(h3:Xg x3/\Xg y3):(((x2*y3 - y2*x3) - (x1*y3 - y1*x3))+(x1*y2 - y1*x2)).natAbs<=510423550381407695195061911147652317184:=by
 have b1:=Uk h2.1 h2.2 h3.1 h3.2;have b2:=Uk h1.1 h1.2 h3.1 h3.2;have b3:=Uk h1.1 h1.2 h2.1 h2.2;omega
theorem Ay{l v:Int}(h1:l.natAbs<=170141183460469231731687303715884105728)(h2:v.natAbs<=510423550381407695195061911147652317184):(l*v).natAbs<=170141183460469231731687303715884105728*510423550381407695195061911147652317184:=by
 rw [Int.natAbs_mul];exact Nat.mul_le_mul h1 h2
theorem Kh(P:Nat->Prop)(x1 y1 x2 y2 x3 y3 x4 y4 N:Int)(h1:Xg x1/\Xg y1)(h2:Xg x2/\Xg y2)(h3:Xg x3/\Xg y3)(h4:Xg x4/\Xg y4)(hN:((x1*x1+y1*y1)*(((x3*y4 - y3*x4) - (x2*y4 - y2*x4))+(x2*y3 - y2*x3)) - (x2*x2+y2*y2)*(((x3*y4 - y3*x4) - (x1*y4 - y1*x4))+(x1*y3 - y1*x3)))+((x3*x3+y3*y3)*(((x2*y4 - y2*x4) - (x1*y4 - y1*x4))+(x1*y2 - y1*x2)) - (x4*x4+y4*y4)*(((x2*y3 - y2*x3) - (x1*y3 - y1*x3))+(x1*y2 - y1*x2)))=N)(w:World)(hP:Up w P):
 Calls prog 41 #[.agg #[.int .i64 x1,.int .i64 y1],.agg #[.int .i64 x2,.int .i64 y2],.agg #[.int .i64 x3,.int .i64 y3],.agg #[.int .i64 x4,.int .i64 y4]] w (Ze P N w):=by
 obtain ⟨w0,hw0⟩:=eE (((((w.alloc (.cells #[.int .i64 x1,.int .i64 y1] 41)).alloc (.cells #[.int .i64 x2,.int .i64 y2] 41)).alloc (.cells #[.int .i64 x3,.int .i64 y3] 41)).alloc (.cells #[.int .i64 x4,.int .i64 y4] 41)).alloc (.cells #[.int .i64 0,.slice none 0 0] 81));have hb0:Below w.heap.size w w0:=by rw [hw0];exact Z7 (Z7 (Z7 (Z7 (bA) _) _) _) _
 have B1:Z6 w0 (w.heap.size) 41 #[.int .i64 x1,.int .i64 y1]:=by
  rw [hw0];have h:=((((Z6.new (w) 41 #[.int .i64 x1,.int .i64 y1]).alloc (.cells #[.int .i64 x2,.int .i64 y2] 41)).alloc (.cells #[.int .i64 x3,.int .i64 y3] 41)).alloc (.cells #[.int .i64 x4,.int .i64 y4] 41)).alloc (.cells #[.int .i64 0,.slice none 0 0] 81);simpa using h
 have B2:Z6 w0 (w.heap.size+1) 41 #[.int .i64 x2,.int .i64 y2]:=by
  rw [hw0];have h:=(((Z6.new ((w.alloc (.cells #[.int .i64 x1,.int .i64 y1] 41))) 41 #[.int .i64 x2,.int .i64 y2]).alloc (.cells #[.int .i64 x3,.int .i64 y3] 41)).alloc (.cells #[.int .i64 x4,.int .i64 y4] 41)).alloc (.cells #[.int .i64 0,.slice none 0 0] 81);simpa using h
 have B3:Z6 w0 (w.heap.size+1+1) 41 #[.int .i64 x3,.int .i64 y3]:=by
  rw [hw0];have h:=((Z6.new (((w.alloc (.cells #[.int .i64 x1,.int .i64 y1] 41)).alloc (.cells #[.int .i64 x2,.int .i64 y2] 41))) 41 #[.int .i64 x3,.int .i64 y3]).alloc (.cells #[.int .i64 x4,.int .i64 y4] 41)).alloc (.cells #[.int .i64 0,.slice none 0 0] 81);simpa using h
 have B4:Z6 w0 (w.heap.size+1+1+1) 41 #[.int .i64 x4,.int .i64 y4]:=by
  rw [hw0];have h:=(Z6.new ((((w.alloc (.cells #[.int .i64 x1,.int .i64 y1] 41)).alloc (.cells #[.int .i64 x2,.int .i64 y2] 41)).alloc (.cells #[.int .i64 x3,.int .i64 y3] 41))) 41 #[.int .i64 x4,.int .i64 y4]).alloc (.cells #[.int .i64 0,.slice none 0 0] 81);simpa using h
 have BR:Z6 w0 (w.heap.size+1+1+1+1) 81 #[.int .i64 0,.slice none 0 0]:=by
  rw [hw0];have h:=Z6.new (((((w.alloc (.cells #[.int .i64 x1,.int .i64 y1] 41)).alloc (.cells #[.int .i64 x2,.int .i64 y2] 41)).alloc (.cells #[.int .i64 x3,.int .i64 y3] 41)).alloc (.cells #[.int .i64 x4,.int .i64 y4] 41))) 81 #[.int .i64 0,.slice none 0 0];simpa using h
 have hsz:w0.heap.size=w.heap.size+1+1+1+1+1:=by rw [hw0];simp
 have hU:∀ {wk:World},w.heap.size+1+1+1+1+1<=wk.heap.size->Up wk (fun k=>P k/\k≠w.heap.size+1+1+1+1):=fun hk=>hP.ne (by omega) (by omega);have lb1:=M4 h1.1 h1.2;have vb1:=Jq h2 h3 h4;obtain ⟨l1,hl1⟩:∃ l,l=(x1*x1+y1*y1):=⟨_,rfl⟩;obtain ⟨v1,hv1⟩:∃ v,v=(((x3*y4 - y3*x4) - (x2*y4 - y2*x4))+(x2*y3 - y2*x3)):=⟨_,rfl⟩;rw [<- hl1] at lb1 hN;rw [<- hv1] at vb1 hN;have lb2:=M4 h2.1 h2.2;have vb2:=Jq h1 h3 h4;obtain ⟨l2,hl2⟩:∃ l,l=(x2*x2+y2*y2):=⟨_,rfl⟩;obtain ⟨v2,hv2⟩:∃ v,v=(((x3*y4 - y3*x4) - (x1*y4 - y1*x4))+(x1*y3 - y1*x3)):=⟨_,rfl⟩;rw [<- hl2] at lb2 hN;rw [<- hv2] at vb2 hN;have lb3:=M4 h3.1 h3.2;have vb3:=Jq h1 h2 h4;obtain ⟨l3,hl3⟩:∃ l,l=(x3*x3+y3*y3):=⟨_,rfl⟩;obtain ⟨v3,hv3⟩:∃ v,v=(((x2*y4 - y2*x4) - (x1*y4 - y1*x4))+(x1*y2 - y1*x2)):=⟨_,rfl⟩;rw [<- hl3] at lb3 hN;rw [<- hv3] at vb3 hN;have lb4:=M4 h4.1 h4.2;have vb4:=Jq h1 h2 h3;obtain ⟨l4,hl4⟩:∃ l,l=(x4*x4+y4*y4):=⟨_,rfl⟩;obtain ⟨v4,hv4⟩:∃ v,v=(((x2*y3 - y2*x3) - (x1*y3 - y1*x3))+(x1*y2 - y1*x2)):=⟨_,rfl⟩;rw [<- hl4] at lb4 hN;rw [<- hv4] at vb4 hN;have tb1:=Ay lb1 vb1;obtain ⟨X,hX⟩:∃ t,t=l1*v1:=⟨_,rfl⟩;rw [<- hX] at tb1 hN;have tb2:=Ay lb2 vb2;obtain ⟨Y,hY⟩:∃ t,t=l2*v2:=⟨_,rfl⟩;rw [<- hY] at tb2 hN;have tb3:=Ay lb3 vb3;obtain ⟨Z,hZ⟩:∃ t,t=l3*v3:=⟨_,rfl⟩;rw [<- hZ] at tb3 hN;have tb4:=Ay lb4 vb4;obtain ⟨W,hW⟩:∃ t,t=l4*v4:=⟨_,rfl⟩;rw [<- hW] at tb4 hN;obtain ⟨S,hS⟩:∃ t,X - Y=t:=⟨_,rfl⟩;obtain ⟨T,hT⟩:∃ t,Z - W=t:=⟨_,rfl⟩;rw [hS,hT] at hN;have qo:Hid (∀ wk,Calls prog 80 #[.agg #[.int .i64 x1,.int .i64 y1]] wk (Ze (fun _=>True) l1 wk)):=hide fun wk=>Qg _ x1 y1 l1 h1.1 h1.2 hl1.symm wk (fun _ _=>trivial);have HV1:Hid (∀ wk,Calls prog 79 #[.agg #[.int .i64 x2,.int .i64 y2],.agg #[.int .i64 x3,.int .i64 y3],.agg #[.int .i64 x4,.int .i64 y4]] wk (Ze (fun _=>True) v1 wk)):=hide fun wk=>SY _ _ _ _ _ _ _ v1 h2 h3 h4 hv1.symm wk (fun _ _=>trivial)
 have kW:Hid (∀ wk A c B d,ZJ wk (fun _=>True) l1 A c->ZJ wk (fun _=>True) v1 B d->Calls prog 74 #[.agg #[.int .i64 l1.sign,.slice A (ZB l1.natAbs).length c],.agg #[.int .i64 v1.sign,.slice B (ZB v1.natAbs).length d]] wk (Ze (fun k=>wk.heap.size<=k) X wk)):=hide fun wk A c B d ha hb=>by
  have h:=SF (fun k=>wk.heap.size<=k) l1 v1 A B c d wk ha hb (Nat.le_trans (dl (k:=9) (by omega)) (by omega)) (Nat.le_trans (dl (k:=9) (by omega)) (by omega)) (fun _ hk=>hk);rw [<- hX] at h;exact h
 have HL2:Hid (∀ wk,Calls prog 80 #[.agg #[.int .i64 x2,.int .i64 y2]] wk (Ze (fun _=>True) l2 wk)):=hide fun wk=>Qg _ x2 y2 l2 h2.1 h2.2 hl2.symm wk (fun _ _=>trivial);have HV2:Hid (∀ wk,Calls prog 79 #[.agg #[.int .i64 x1,.int .i64 y1],.agg #[.int .i64 x3,.int .i64 y3],.agg #[.int .i64 x4,.int .i64 y4]] wk (Ze (fun _=>True) v2 wk)):=hide fun wk=>SY _ _ _ _ _ _ _ v2 h1 h3 h4 hv2.symm wk (fun _ _=>trivial)
 have wW:Hid (∀ wk A c B d,ZJ wk (fun _=>True) l2 A c->ZJ wk (fun _=>True) v2 B d->Calls prog 74 #[.agg #[.int .i64 l2.sign,.slice A (ZB l2.natAbs).length c],.agg #[.int .i64 v2.sign,.slice B (ZB v2.natAbs).length d]] wk (Ze (fun k=>wk.heap.size<=k) Y wk)):=hide fun wk A c B d ha hb=>by
  have h:=SF (fun k=>wk.heap.size<=k) l2 v2 A B c d wk ha hb (Nat.le_trans (dl (k:=9) (by omega)) (by omega)) (Nat.le_trans (dl (k:=9) (by omega)) (by omega)) (fun _ hk=>hk);rw [<- hY] at h;exact h
 have HL3:Hid (∀ wk,Calls prog 80 #[.agg #[.int .i64 x3,.int .i64 y3]] wk (Ze (fun _=>True) l3 wk)):=hide fun wk=>Qg _ x3 y3 l3 h3.1 h3.2 hl3.symm wk (fun _ _=>trivial);have HV3:Hid (∀ wk,Calls prog 79 #[.agg #[.int .i64 x1,.int .i64 y1],.agg #[.int .i64 x2,.int .i64 y2],.agg #[.int .i64 x4,.int .i64 y4]] wk (Ze (fun _=>True) v3 wk)):=hide fun wk=>SY _ _ _ _ _ _ _ v3 h1 h2 h4 hv3.symm wk (fun _ _=>trivial)
 have HM3:Hid (∀ wk A c B d,ZJ wk (fun _=>True) l3 A c->ZJ wk (fun _=>True) v3 B d->Calls prog 74 #[.agg #[.int .i64 l3.sign,.slice A (ZB l3.natAbs).length c],.agg #[.int .i64 v3.sign,.slice B (ZB v3.natAbs).length d]] wk (Ze (fun k=>wk.heap.size<=k) Z wk)):=hide fun wk A c B d ha hb=>by
  have h:=SF (fun k=>wk.heap.size<=k) l3 v3 A B c d wk ha hb (Nat.le_trans (dl (k:=9) (by omega)) (by omega)) (Nat.le_trans (dl (k:=9) (by omega)) (by omega)) (fun _ hk=>hk);rw [<- hZ] at h;exact h
 have HL4:Hid (∀ wk,Calls prog 80 #[.agg #[.int .i64 x4,.int .i64 y4]] wk (Ze (fun _=>True) l4 wk)):=hide fun wk=>Qg _ x4 y4 l4 h4.1 h4.2 hl4.symm wk (fun _ _=>trivial);have HV4:Hid (∀ wk,Calls prog 79 #[.agg #[.int .i64 x1,.int .i64 y1],.agg #[.int .i64 x2,.int .i64 y2],.agg #[.int .i64 x3,.int .i64 y3]] wk (Ze (fun _=>True) v4 wk)):=hide fun wk=>SY _ _ _ _ _ _ _ v4 h1 h2 h3 hv4.symm wk (fun _ _=>trivial)
 have HM4:Hid (∀ wk A c B d,ZJ wk (fun _=>True) l4 A c->ZJ wk (fun _=>True) v4 B d->Calls prog 74 #[.agg #[.int .i64 l4.sign,.slice A (ZB l4.natAbs).length c],.agg #[.int .i64 v4.sign,.slice B (ZB v4.natAbs).length d]] wk (Ze (fun k=>wk.heap.size<=k) W wk)):=hide fun wk A c B d ha hb=>by
  have h:=SF (fun k=>wk.heap.size<=k) l4 v4 A B c d wk ha hb (Nat.le_trans (dl (k:=9) (by omega)) (by omega)) (Nat.le_trans (dl (k:=9) (by omega)) (by omega)) (fun _ hk=>hk);rw [<- hW] at h;exact h
 have aO:Hid (∀ wk A c B d,w.heap.size+1+1+1+1+1<=wk.heap.size->ZJ wk (fun k=>P k/\k≠w.heap.size+1+1+1+1) X A c->ZJ wk (fun k=>P k/\k≠w.heap.size+1+1+1+1) Y B d->Calls prog 81 #[.agg #[.int .i64 X.sign,.slice A (ZB X.natAbs).length c],.agg #[.int .i64 Y.sign,.slice B (ZB Y.natAbs).length d]] wk (Ze (fun k=>P k/\k≠w.heap.size+1+1+1+1) S wk)):=hide fun wk A c B d hk ha hb=>by
  have h:=Nh _ X Y A B c d wk ha hb (Nat.le_trans (dl (k:=18) (by omega)) (by omega)) (Nat.le_trans (dl (k:=18) (by omega)) (by omega)) (hU hk);rw [hS] at h;exact h
 have HS2:Hid (∀ wk A c B d,w.heap.size+1+1+1+1+1<=wk.heap.size->ZJ wk (fun k=>P k/\k≠w.heap.size+1+1+1+1) Z A c->ZJ wk (fun k=>P k/\k≠w.heap.size+1+1+1+1) W B d->Calls prog 81 #[.agg #[.int .i64 Z.sign,.slice A (ZB Z.natAbs).length c],.agg #[.int .i64 W.sign,.slice B (ZB W.natAbs).length d]] wk (Ze (fun k=>P k/\k≠w.heap.size+1+1+1+1) T wk)):=hide fun wk A c B d hk ha hb=>by
  have h:=Nh _ Z W A B c d wk ha hb (Nat.le_trans (dl (k:=18) (by omega)) (by omega)) (Nat.le_trans (dl (k:=18) (by omega)) (by omega)) (hU hk);rw [hT] at h;exact h
 have HS3:Hid (∀ wk A c B d,w.heap.size+1+1+1+1+1<=wk.heap.size->ZJ wk (fun k=>P k/\k≠w.heap.size+1+1+1+1) S A c->ZJ wk (fun k=>P k/\k≠w.heap.size+1+1+1+1) T B d->Calls prog 73 #[.agg #[.int .i64 S.sign,.slice A (ZB S.natAbs).length c],.agg #[.int .i64 T.sign,.slice B (ZB T.natAbs).length d]] wk (Ze (fun k=>P k/\k≠w.heap.size+1+1+1+1) N wk)):=hide fun wk A c B d hk ha hb=>by
  have h:=MQ _ S T A B c d wk ha hb (Nat.le_trans (dl (k:=18) (by omega)) (by omega)) (Nat.le_trans (dl (k:=18) (by omega)) (by omega)) (hU hk);rw [hN] at h;exact h
 have h00:Zq w0 (w.heap.size) (w.heap.size+1) (w.heap.size+1+1) (w.heap.size+1+1+1) x1 y1 x2 y2 x3 y3 x4 y4 w0:=⟨Below.refl _ _,B1.q0 rfl,B1.q1 rfl,B2.q0 rfl,B2.q1 rfl,B3.q0 rfl,B3.q1 rfl,B4.q0 rfl,B4.q1 rfl⟩;have HUU:=hide (hU (wk:=w0) (by omega));have Va:=hide hsz;have HB0:=hide hb0;have qN:=hide BR;clear h1 h2 h3 h4 hN hP hU hb0 B1 B2 B3 B4 BR hsz hS hT hX hY hZ hW hl1 hl2 hl3 hl4 hv1 hv2 hv3 hv4 lb1 lb2 lb3 lb4 vb1 vb2 vb3 vb4 tb1 tb2 tb3 tb4;have HL:Hid (w.heap.size<w0.heap.size/\w.heap.size+1<w0.heap.size/\w.heap.size+1+1<w0.heap.size/\w.heap.size+1+1+1<w0.heap.size):=hide (by have:=Va.out;omega);go_enter func41,ntmps41;go_wp2_with fail;rw [<- hw0];have HW0:=hide hw0;clear hw0;have hd0:=h00.keep (ZU (Below.refl _ _))
 go_cut [9] from 13 to 19 (fun u wx=>Rx w0 wx (fun k=>P k/\k≠w.heap.size+1+1+1+1) X u)
 case first =>
  go_region_held3 (fun w'=>Below w0.heap.size w0 w'/\w'.cell? ⟨w.heap.size,0,none⟩=some (.int .i64 x1)/\w'.cell? ⟨w.heap.size,1,none⟩=some (.int .i64 y1)/\w'.cell? ⟨w.heap.size+1,0,none⟩=some (.int .i64 x2)/\w'.cell? ⟨w.heap.size+1,1,none⟩=some (.int .i64 y2)/\w'.cell? ⟨w.heap.size+1+1,0,none⟩=some (.int .i64 x3)/\w'.cell? ⟨w.heap.size+1+1,1,none⟩=some (.int .i64 y3)/\w'.cell? ⟨w.heap.size+1+1+1,0,none⟩=some (.int .i64 x4)/\w'.cell? ⟨w.heap.size+1+1+1,1,none⟩=some (.int .i64 y4))
   (first|with_reducible exact Zq.set HL.out (Zq.set HL.out (by assumption) (by have z1:=hb4.size;have z2:=hb5.size;have z3:=hb6.size;simp only [World.drew] at z1 z2 z3;omega) _ _) (by have z1:=hb4.size;have z2:=hb5.size;have z3:=hb6.size;simp only [World.drew] at z1 z2 z3;omega) _ _|with_reducible exact hd0|with_reducible exact h00|with_reducible exact Zq.keep (by assumption) (by assumption)|with_reducible exact hd0.keep (by assumption)|with_reducible exact Zq.keep (by assumption) (bA)|with_reducible exact hd0.keep (bA)|with_reducible exact Zq.Qm HL.out (by assumption) (by have z1:=hb4.size;have z2:=hb5.size;have z3:=hb6.size;simp only [World.drew] at z1 z2 z3;omega))
   (first
     | (go_at_call 80;((with_reducible refine (qo.out _).mono ?_);rintro e w4 ⟨A4,c4,rfl,Pv,hb4⟩;unfold YQ;(first|(have LM:=Xz hb4;have z0:=LM.q0 rfl;have z1:=LM.q1 rfl;have y0:=LM.frozen 0;have y1:=LM.frozen 1)|skip)))
     | (go_at_call 79;((with_reducible refine (HV1.out _).mono ?_);rintro e w5 ⟨A5,c5,rfl,UR,hb5⟩;unfold YQ;(first|(have TJ:=Pv.step hb5)|(have TJ:=Pv.Tc hb5));(first|(have VT:=Ya hb5;have z0:=VT.q0 rfl;have z1:=VT.q1 rfl;have y0:=VT.frozen 0;have y1:=VT.frozen 1)|(have VT:=LM.step hb5;have z0:=VT.q0 rfl;have z1:=VT.q1 rfl;have y0:=VT.frozen 0;have y1:=VT.frozen 1)|skip)))
     | (go_at_call 74;((with_reducible refine (kW.out _ A4 c4 A5 c5 (by first|with_reducible exact TJ|with_reducible exact TJ.al) (by first|with_reducible exact UR|with_reducible exact UR.al)).mono ?_);rintro e w6 ⟨A6,c6,rfl,NZ,hb6⟩;unfold YQ;(first|(have Uy:=Ya hb6;have hL6:=PK hb6;have z0:=Uy.q0 rfl;have z1:=Uy.q1 rfl;have y0:=Uy.frozen 0;have y1:=Uy.frozen 1)|(have Uy:=VT.step hb6;have hL6:=VT.lt;have z0:=Uy.q0 rfl;have z1:=Uy.q1 rfl;have y0:=Uy.frozen 0;have y1:=Uy.frozen 1)|skip))))
  all_goals
   rename_i Ym
   have Ic:=Ym.1
   (first|(with_reducible have FIN:=hide (Wd Ic Uy hL6 NZ (HUU.out.of (by have z1:=hb4.size;have z2:=hb5.size;simp only [World.drew,World.size_alloc] at z1 z2 ⊢;omega)) (by have z1:=hb4.size;have z2:=hb5.size;have z3:=hb6.size;simp only [World.drew] at z1 z2 z3;omega)))|(with_reducible have FIN:=hide (Vg Ic NZ (HUU.out.of (by have z1:=hb4.size;have z2:=hb5.size;simp only [World.drew] at z1 z2 ⊢;omega)) (by have z1:=hb4.size;have z2:=hb5.size;have z3:=hb6.size;simp only [World.drew] at z1 z2 z3;omega))))
   clear Ym Ic Pv UR TJ NZ hb4 hb5 hb6
  all_goals go_wp2_with fail
  all_goals go_meet
  all_goals exact FIN.out
 case rest =>
  obtain ⟨K1,A10,c10,rfl,hbx,hblk,LU,hge⟩:=hcut;have HX1:=hide hblk;have zok:=hide LU;have zrk:=hide hbx;have hK1:=hge;have zlp:=hblk.lt;have znb:=hbx.size;have kT:Hid (w.heap.size<wc.heap.size/\w.heap.size+1<wc.heap.size/\w.heap.size+1+1<wc.heap.size/\w.heap.size+1+1+1<wc.heap.size):=hide (by have h1:=HL.out;omega);have aS:=hide (HUU.out.of hbx.size);have h1c:Zq wc (w.heap.size) (w.heap.size+1) (w.heap.size+1+1) (w.heap.size+1+1+1) x1 y1 x2 y2 x3 y3 x4 y4 wc:=by
   have h:=h00.keep hbx;exact ⟨Below.refl _ _,h.2⟩
  clear hbx hblk LU hge hd0 h00;go_wp2_with fail;have hd0:=h1c.keep (ZU (Below.refl _ _))
  go_cut [10] from 20 to 26 (fun u wx=>Rx wc wx (fun k=>P k/\k≠w.heap.size+1+1+1+1) Y u)
  case first =>
   go_region_held3 (fun w'=>Below wc.heap.size wc w'/\w'.cell? ⟨w.heap.size,0,none⟩=some (.int .i64 x1)/\w'.cell? ⟨w.heap.size,1,none⟩=some (.int .i64 y1)/\w'.cell? ⟨w.heap.size+1,0,none⟩=some (.int .i64 x2)/\w'.cell? ⟨w.heap.size+1,1,none⟩=some (.int .i64 y2)/\w'.cell? ⟨w.heap.size+1+1,0,none⟩=some (.int .i64 x3)/\w'.cell? ⟨w.heap.size+1+1,1,none⟩=some (.int .i64 y3)/\w'.cell? ⟨w.heap.size+1+1+1,0,none⟩=some (.int .i64 x4)/\w'.cell? ⟨w.heap.size+1+1+1,1,none⟩=some (.int .i64 y4))
    (first|with_reducible exact Zq.set kT.out (Zq.set kT.out (by assumption) (by have z1:=hb4.size;have z2:=hb5.size;have z3:=hb6.size;simp only [World.drew] at z1 z2 z3;omega) _ _) (by have z1:=hb4.size;have z2:=hb5.size;have z3:=hb6.size;simp only [World.drew] at z1 z2 z3;omega) _ _|with_reducible exact hd0|with_reducible exact h1c|with_reducible exact Zq.keep (by assumption) (by assumption)|with_reducible exact hd0.keep (by assumption)|with_reducible exact Zq.keep (by assumption) (bA)|with_reducible exact hd0.keep (bA)|with_reducible exact Zq.Qm kT.out (by assumption) (by have z1:=hb4.size;have z2:=hb5.size;have z3:=hb6.size;simp only [World.drew] at z1 z2 z3;omega))
    (first
      | (go_at_call 80;((with_reducible refine (HL2.out _).mono ?_);rintro e w4 ⟨A4,c4,rfl,Pv,hb4⟩;unfold YQ;(first|(have LM:=Xz hb4;have z0:=LM.q0 rfl;have z1:=LM.q1 rfl;have y0:=LM.frozen 0;have y1:=LM.frozen 1)|skip)))
      | (go_at_call 79;((with_reducible refine (HV2.out _).mono ?_);rintro e w5 ⟨A5,c5,rfl,UR,hb5⟩;unfold YQ;(first|(have TJ:=Pv.step hb5)|(have TJ:=Pv.Tc hb5));(first|(have VT:=Ya hb5;have z0:=VT.q0 rfl;have z1:=VT.q1 rfl;have y0:=VT.frozen 0;have y1:=VT.frozen 1)|(have VT:=LM.step hb5;have z0:=VT.q0 rfl;have z1:=VT.q1 rfl;have y0:=VT.frozen 0;have y1:=VT.frozen 1)|skip)))
      | (go_at_call 74;((with_reducible refine (wW.out _ A4 c4 A5 c5 (by first|with_reducible exact TJ|with_reducible exact TJ.al) (by first|with_reducible exact UR|with_reducible exact UR.al)).mono ?_);rintro e w6 ⟨A6,c6,rfl,NZ,hb6⟩;unfold YQ;(first|(have Uy:=Ya hb6;have hL6:=PK hb6;have z0:=Uy.q0 rfl;have z1:=Uy.q1 rfl;have y0:=Uy.frozen 0;have y1:=Uy.frozen 1)|(have Uy:=VT.step hb6;have hL6:=VT.lt;have z0:=Uy.q0 rfl;have z1:=Uy.q1 rfl;have y0:=Uy.frozen 0;have y1:=Uy.frozen 1)|skip))))
   all_goals
    rename_i Ym
    have Ic:=Ym.1
    (first|(with_reducible have FIN:=hide (Wd Ic Uy hL6 NZ (aS.out.of (by have z1:=hb4.size;have z2:=hb5.size;simp only [World.drew,World.size_alloc] at z1 z2 ⊢;omega)) (by have z1:=hb4.size;have z2:=hb5.size;have z3:=hb6.size;simp only [World.drew] at z1 z2 z3;omega)))|(with_reducible have FIN:=hide (Vg Ic NZ (aS.out.of (by have z1:=hb4.size;have z2:=hb5.size;simp only [World.drew] at z1 z2 ⊢;omega)) (by have z1:=hb4.size;have z2:=hb5.size;have z3:=hb6.size;simp only [World.drew] at z1 z2 z3;omega))))
    clear Ym Ic Pv UR TJ NZ hb4 hb5 hb6
   all_goals go_wp2_with fail
   all_goals go_meet
   all_goals exact FIN.out
  case rest =>
   obtain ⟨K2,A20,c20,rfl,hbx,hblk,LU,hge⟩:=hcut;have HX2:=hide hblk;have zol:=hide LU;have kP:=hide hbx;have hK2:=hge;have zlq:=hblk.lt;have znc:=hbx.size;have kU:Hid (w.heap.size<wc.heap.size/\w.heap.size+1<wc.heap.size/\w.heap.size+1+1<wc.heap.size/\w.heap.size+1+1+1<wc.heap.size):=hide (by have h1:=kT.out;omega);have aT:=hide (aS.out.of hbx.size);have h2c:Zq wc (w.heap.size) (w.heap.size+1) (w.heap.size+1+1) (w.heap.size+1+1+1) x1 y1 x2 y2 x3 y3 x4 y4 wc:=by
    have h:=h1c.keep hbx;exact ⟨Below.refl _ _,h.2⟩
   clear hbx hblk LU hge hd0 h1c;go_wp2_with fail;have hd0:=h2c.keep (ZU (Below.refl _ _))
   go_cut [11] from 27 to 33 (fun u wx=>Rx wc wx (fun k=>P k/\k≠w.heap.size+1+1+1+1) Z u)
   case first =>
    go_region_held3 (fun w'=>Below wc.heap.size wc w'/\w'.cell? ⟨w.heap.size,0,none⟩=some (.int .i64 x1)/\w'.cell? ⟨w.heap.size,1,none⟩=some (.int .i64 y1)/\w'.cell? ⟨w.heap.size+1,0,none⟩=some (.int .i64 x2)/\w'.cell? ⟨w.heap.size+1,1,none⟩=some (.int .i64 y2)/\w'.cell? ⟨w.heap.size+1+1,0,none⟩=some (.int .i64 x3)/\w'.cell? ⟨w.heap.size+1+1,1,none⟩=some (.int .i64 y3)/\w'.cell? ⟨w.heap.size+1+1+1,0,none⟩=some (.int .i64 x4)/\w'.cell? ⟨w.heap.size+1+1+1,1,none⟩=some (.int .i64 y4))
     (first|with_reducible exact Zq.set kU.out (Zq.set kU.out (by assumption) (by have z1:=hb4.size;have z2:=hb5.size;have z3:=hb6.size;simp only [World.drew] at z1 z2 z3;omega) _ _) (by have z1:=hb4.size;have z2:=hb5.size;have z3:=hb6.size;simp only [World.drew] at z1 z2 z3;omega) _ _|with_reducible exact hd0|with_reducible exact h2c|with_reducible exact Zq.keep (by assumption) (by assumption)|with_reducible exact hd0.keep (by assumption)|with_reducible exact Zq.keep (by assumption) (bA)|with_reducible exact hd0.keep (bA)|with_reducible exact Zq.Qm kU.out (by assumption) (by have z1:=hb4.size;have z2:=hb5.size;have z3:=hb6.size;simp only [World.drew] at z1 z2 z3;omega))
     (first
       | (go_at_call 80;((with_reducible refine (HL3.out _).mono ?_);rintro e w4 ⟨A4,c4,rfl,Pv,hb4⟩;unfold YQ;(first|(have LM:=Xz hb4;have z0:=LM.q0 rfl;have z1:=LM.q1 rfl;have y0:=LM.frozen 0;have y1:=LM.frozen 1)|skip)))
       | (go_at_call 79;((with_reducible refine (HV3.out _).mono ?_);rintro e w5 ⟨A5,c5,rfl,UR,hb5⟩;unfold YQ;(first|(have TJ:=Pv.step hb5)|(have TJ:=Pv.Tc hb5));(first|(have VT:=Ya hb5;have z0:=VT.q0 rfl;have z1:=VT.q1 rfl;have y0:=VT.frozen 0;have y1:=VT.frozen 1)|(have VT:=LM.step hb5;have z0:=VT.q0 rfl;have z1:=VT.q1 rfl;have y0:=VT.frozen 0;have y1:=VT.frozen 1)|skip)))
       | (go_at_call 74;((with_reducible refine (HM3.out _ A4 c4 A5 c5 (by first|with_reducible exact TJ|with_reducible exact TJ.al) (by first|with_reducible exact UR|with_reducible exact UR.al)).mono ?_);rintro e w6 ⟨A6,c6,rfl,NZ,hb6⟩;unfold YQ;(first|(have Uy:=Ya hb6;have hL6:=PK hb6;have z0:=Uy.q0 rfl;have z1:=Uy.q1 rfl;have y0:=Uy.frozen 0;have y1:=Uy.frozen 1)|(have Uy:=VT.step hb6;have hL6:=VT.lt;have z0:=Uy.q0 rfl;have z1:=Uy.q1 rfl;have y0:=Uy.frozen 0;have y1:=Uy.frozen 1)|skip))))
    all_goals
     rename_i Ym
     have Ic:=Ym.1
     (first|(with_reducible have FIN:=hide (Wd Ic Uy hL6 NZ (aT.out.of (by have z1:=hb4.size;have z2:=hb5.size;simp only [World.drew,World.size_alloc] at z1 z2 ⊢;omega)) (by have z1:=hb4.size;have z2:=hb5.size;have z3:=hb6.size;simp only [World.drew] at z1 z2 z3;omega)))|(with_reducible have FIN:=hide (Vg Ic NZ (aT.out.of (by have z1:=hb4.size;have z2:=hb5.size;simp only [World.drew] at z1 z2 ⊢;omega)) (by have z1:=hb4.size;have z2:=hb5.size;have z3:=hb6.size;simp only [World.drew] at z1 z2 z3;omega))))
     clear Ym Ic Pv UR TJ NZ hb4 hb5 hb6
    all_goals go_wp2_with fail
    all_goals go_meet
    all_goals exact FIN.out
   case rest =>
    obtain ⟨K3,A30,c30,rfl,hbx,hblk,LU,hge⟩:=hcut;have jL:=hide hblk;have zom:=hide LU;have xG:=hide hbx;have hK3:=hge;have zlr:=hblk.lt;have znd:=hbx.size;have kV:Hid (w.heap.size<wc.heap.size/\w.heap.size+1<wc.heap.size/\w.heap.size+1+1<wc.heap.size/\w.heap.size+1+1+1<wc.heap.size):=hide (by have h1:=kU.out;omega);have aU:=hide (aT.out.of hbx.size);have h3c:Zq wc (w.heap.size) (w.heap.size+1) (w.heap.size+1+1) (w.heap.size+1+1+1) x1 y1 x2 y2 x3 y3 x4 y4 wc:=by
     have h:=h2c.keep hbx;exact ⟨Below.refl _ _,h.2⟩
    clear hbx hblk LU hge hd0 h2c;go_wp2_with fail;have hd0:=h3c.keep (ZU (Below.refl _ _))
    go_cut [12] from 34 to 40 (fun u wx=>Rx wc wx (fun k=>P k/\k≠w.heap.size+1+1+1+1) W u)
    case first =>
     go_region_held3 (fun w'=>Below wc.heap.size wc w'/\w'.cell? ⟨w.heap.size,0,none⟩=some (.int .i64 x1)/\w'.cell? ⟨w.heap.size,1,none⟩=some (.int .i64 y1)/\w'.cell? ⟨w.heap.size+1,0,none⟩=some (.int .i64 x2)/\w'.cell? ⟨w.heap.size+1,1,none⟩=some (.int .i64 y2)/\w'.cell? ⟨w.heap.size+1+1,0,none⟩=some (.int .i64 x3)/\w'.cell? ⟨w.heap.size+1+1,1,none⟩=some (.int .i64 y3)/\w'.cell? ⟨w.heap.size+1+1+1,0,none⟩=some (.int .i64 x4)/\w'.cell? ⟨w.heap.size+1+1+1,1,none⟩=some (.int .i64 y4))
      (first|with_reducible exact Zq.set kV.out (Zq.set kV.out (by assumption) (by have z1:=hb4.size;have z2:=hb5.size;have z3:=hb6.size;simp only [World.drew] at z1 z2 z3;omega) _ _) (by have z1:=hb4.size;have z2:=hb5.size;have z3:=hb6.size;simp only [World.drew] at z1 z2 z3;omega) _ _|with_reducible exact hd0|with_reducible exact h3c|with_reducible exact Zq.keep (by assumption) (by assumption)|with_reducible exact hd0.keep (by assumption)|with_reducible exact Zq.keep (by assumption) (bA)|with_reducible exact hd0.keep (bA)|with_reducible exact Zq.Qm kV.out (by assumption) (by have z1:=hb4.size;have z2:=hb5.size;have z3:=hb6.size;simp only [World.drew] at z1 z2 z3;omega))
      (first
        | (go_at_call 80;((with_reducible refine (HL4.out _).mono ?_);rintro e w4 ⟨A4,c4,rfl,Pv,hb4⟩;unfold YQ;(first|(have LM:=Xz hb4;have z0:=LM.q0 rfl;have z1:=LM.q1 rfl;have y0:=LM.frozen 0;have y1:=LM.frozen 1)|skip)))
        | (go_at_call 79;((with_reducible refine (HV4.out _).mono ?_);rintro e w5 ⟨A5,c5,rfl,UR,hb5⟩;unfold YQ;(first|(have TJ:=Pv.step hb5)|(have TJ:=Pv.Tc hb5));(first|(have VT:=Ya hb5;have z0:=VT.q0 rfl;have z1:=VT.q1 rfl;have y0:=VT.frozen 0;have y1:=VT.frozen 1)|(have VT:=LM.step hb5;have z0:=VT.q0 rfl;have z1:=VT.q1 rfl;have y0:=VT.frozen 0;have y1:=VT.frozen 1)|skip)))
        | (go_at_call 74;((with_reducible refine (HM4.out _ A4 c4 A5 c5 (by first|with_reducible exact TJ|with_reducible exact TJ.al) (by first|with_reducible exact UR|with_reducible exact UR.al)).mono ?_);rintro e w6 ⟨A6,c6,rfl,NZ,hb6⟩;unfold YQ;(first|(have Uy:=Ya hb6;have hL6:=PK hb6;have z0:=Uy.q0 rfl;have z1:=Uy.q1 rfl;have y0:=Uy.frozen 0;have y1:=Uy.frozen 1)|(have Uy:=VT.step hb6;have hL6:=VT.lt;have z0:=Uy.q0 rfl;have z1:=Uy.q1 rfl;have y0:=Uy.frozen 0;have y1:=Uy.frozen 1)|skip))))
     all_goals
      rename_i Ym
      have Ic:=Ym.1
      (first|(with_reducible have FIN:=hide (Wd Ic Uy hL6 NZ (aU.out.of (by have z1:=hb4.size;have z2:=hb5.size;simp only [World.drew,World.size_alloc] at z1 z2 ⊢;omega)) (by have z1:=hb4.size;have z2:=hb5.size;have z3:=hb6.size;simp only [World.drew] at z1 z2 z3;omega)))|(with_reducible have FIN:=hide (Vg Ic NZ (aU.out.of (by have z1:=hb4.size;have z2:=hb5.size;simp only [World.drew] at z1 z2 ⊢;omega)) (by have z1:=hb4.size;have z2:=hb5.size;have z3:=hb6.size;simp only [World.drew] at z1 z2 z3;omega))))
      clear Ym Ic Pv UR TJ NZ hb4 hb5 hb6
     all_goals go_wp2_with fail
     all_goals go_meet
     all_goals exact FIN.out
    case rest =>
     obtain ⟨K4,A40,c40,rfl,hbx,hblk,LU,hge⟩:=hcut;have HX4:=hide hblk;have zon:=hide LU;have Ez:=hide hbx;have hK4:=hge;have zls:=hblk.lt;have zne:=hbx.size;have zli:Hid (w.heap.size<wc.heap.size/\w.heap.size+1<wc.heap.size/\w.heap.size+1+1<wc.heap.size/\w.heap.size+1+1+1<wc.heap.size):=hide (by have h1:=kV.out;omega);have zll:=hide (aU.out.of hbx.size);have h4c:Zq wc (w.heap.size) (w.heap.size+1) (w.heap.size+1+1) (w.heap.size+1+1+1) x1 y1 x2 y2 x3 y3 x4 y4 wc:=by
      have h:=h3c.keep hbx;exact ⟨Below.refl _ _,h.2⟩
     clear hbx hblk LU hge hd0 h3c;go_wp2_with fail;have hbw:Below w.heap.size w wc:=Z9 (Z9 (Z9 (Z9 HB0.out zrk.out) kP.out) xG.out) Ez.out;have hr:R2 wc (w.heap.size+1+1+1+1):=⟨_,_,(((qN.out.step zrk.out).step kP.out).step xG.out).step Ez.out⟩;have bx1:=((HX1.out.step kP.out).step xG.out).step Ez.out;have nx1:=((zok.out.step kP.out).step xG.out).step Ez.out;have bx2:=(HX2.out.step xG.out).step Ez.out;have nx2:=(zol.out.step xG.out).step Ez.out;have bx3:=jL.out.step Ez.out;have nx3:=zom.out.step Ez.out;have bx4:=HX4.out;have nx4:=zon.out;have hzz:=Va.out
     have ztq:Za w (w.heap.size+1+1+1+1+1) K1 K2 K3 K4 (w.heap.size+1+1+1+1) P X A10 c10 Y A20 c20 Z A30 c30 W A40 c40 wc :=
      Za.mk' hbw (by omega) hr nx1 nx2 nx3 nx4 (bx1.q0 rfl) (bx1.q1 rfl) (bx2.q0 rfl) (bx2.q1 rfl) (bx3.q0 rfl) (bx3.q1 rfl) (bx4.q0 rfl) (bx4.q1 rfl)
     have hd0:=ztq.keep (ZU (Below.refl _ _));have e1:K1≠w.heap.size+1+1+1+1/\K2≠w.heap.size+1+1+1+1/\K3≠w.heap.size+1+1+1+1/\K4≠w.heap.size+1+1+1+1:=(by omega);clear hbw hr bx1 nx1 bx2 nx2 bx3 nx3 bx4 nx4
     go_region_held3 (fun w'=>(Below w.heap.size w w'/\(w.heap.size+1+1+1+1+1)<=w'.heap.size/\R2 w' (w.heap.size+1+1+1+1)/\ZJ w' (fun k=>P k/\k≠w.heap.size+1+1+1+1) X A10 c10/\ZJ w' (fun k=>P k/\k≠w.heap.size+1+1+1+1) Y A20 c20/\ZJ w' (fun k=>P k/\k≠w.heap.size+1+1+1+1) Z A30 c30/\ZJ w' (fun k=>P k/\k≠w.heap.size+1+1+1+1) W A40 c40)/\w'.cell? ⟨K1,0,none⟩=some (.int .i64 X.sign)/\w'.cell? ⟨K1,1,none⟩=some (.slice A10 (ZB X.natAbs).length c10)/\w'.cell? ⟨K2,0,none⟩=some (.int .i64 Y.sign)/\w'.cell? ⟨K2,1,none⟩=some (.slice A20 (ZB Y.natAbs).length c20)/\w'.cell? ⟨K3,0,none⟩=some (.int .i64 Z.sign)/\w'.cell? ⟨K3,1,none⟩=some (.slice A30 (ZB Z.natAbs).length c30)/\w'.cell? ⟨K4,0,none⟩=some (.int .i64 W.sign)/\w'.cell? ⟨K4,1,none⟩=some (.slice A40 (ZB W.natAbs).length c40) /\
      w'.cell? ⟨w.heap.size+1+1+1+1,0,none⟩=some (Cw w' ⟨w.heap.size+1+1+1+1,0,none⟩)/\w'.cell? ⟨w.heap.size+1+1+1+1,1,none⟩=some (Cw w' ⟨w.heap.size+1+1+1+1,1,none⟩)/\w'.frozen? ⟨w.heap.size+1+1+1+1,0,none⟩=false/\w'.frozen? ⟨w.heap.size+1+1+1+1,1,none⟩=false)
      (first|with_reducible exact sM|with_reducible exact hd0|with_reducible exact ztq|with_reducible exact Za.keep (by assumption) (by assumption)|with_reducible exact hd0.keep (by assumption)|exact Za.set2 (by assumption) e1 (by omega) _ _)
      (first
        | (go_at_call 81;((with_reducible refine (aO.out _ A10 c10 A20 c20 (by first|exact Za.big (by assumption)) (by first|exact Za.oH (by assumption)) (by first|exact Za.oI (by assumption))).mono ?_);rintro e w5 ⟨A5,c5,rfl,UR,hb5⟩;unfold YQ))
        | (go_at_call 81;((with_reducible refine (HS2.out _ A30 c30 A40 c40 (by first|exact Za.big (by assumption)) (by first|exact Za.zqj (by assumption)) (by first|exact Za.zqk (by assumption))).mono ?_);rintro e w6 ⟨A6,c6,rfl,NZ,hb6⟩;unfold YQ))
        | (go_at_call 73;((with_reducible refine (HS3.out _ A5 c5 A6 c6 (by first|exact Za.big (by assumption)) (by first|exact UR.step hb6|exact UR) (by first|exact NZ|exact NZ.step hb5)).mono ?_);rintro e w8 ⟨A8,c8,rfl,hN8,Sm⟩;have sM:=Za.keep (by assumption) Sm;unfold YQ)))
     all_goals
      go_wp2;exact bodyPost_ret (R2.run (Za.row sM) rfl rfl) rfl (XD (Za.below sM) (by omega) hN8)
theorem zF(x1 y1 x2 y2 x3 y3 x4 y4 N M s:Int)(h1:Xg x1/\Xg y1)(h2:Xg x2/\Xg y2)(h3:Xg x3/\Xg y3)(h4:Xg x4/\Xg y4)(hN:((x1*x1+y1*y1)*(((x3*y4 - y3*x4) - (x2*y4 - y2*x4))+(x2*y3 - y2*x3)) - (x2*x2+y2*y2)*(((x3*y4 - y3*x4) - (x1*y4 - y1*x4))+(x1*y3 - y1*x3)))+((x3*x3+y3*y3)*(((x2*y4 - y2*x4) - (x1*y4 - y1*x4))+(x1*y2 - y1*x2)) - (x4*x4+y4*y4)*(((x2*y3 - y2*x3) - (x1*y3 - y1*x3))+(x1*y2 - y1*x2)))=N)(hM:(((x2*y3 - y2*x3) - (x1*y3 - y1*x3))+(x1*y2 - y1*x2))=M)(hs:IntKind.i64.wrap (N.sign*M.sign)=s)(w:World):
 Calls prog 237 #[.agg #[.int .i64 x1,.int .i64 y1],.agg #[.int .i64 x2,.int .i64 y2],.agg #[.int .i64 x3,.int .i64 y3],.agg #[.int .i64 x4,.int .i64 y4]] w fun e w'=>e=.returned (.int .i64 s)/\Below w.heap.size w w':=by
 obtain ⟨w0,hw0⟩:=eE (((((w.alloc (.cells #[.int .i64 x1,.int .i64 y1] 41)).alloc (.cells #[.int .i64 x2,.int .i64 y2] 41)).alloc (.cells #[.int .i64 x3,.int .i64 y3] 41)).alloc (.cells #[.int .i64 x4,.int .i64 y4] 41)));have hb0:Below w.heap.size w w0:=by rw [hw0];exact Z7 (Z7 (Z7 (bA) _) _) _
 have B1:Z6 w0 (w.heap.size) 41 #[.int .i64 x1,.int .i64 y1]:=by
  rw [hw0];have h:=(((Z6.new (w) 41 #[.int .i64 x1,.int .i64 y1]).alloc (.cells #[.int .i64 x2,.int .i64 y2] 41)).alloc (.cells #[.int .i64 x3,.int .i64 y3] 41)).alloc (.cells #[.int .i64 x4,.int .i64 y4] 41);simpa using h
 have B2:Z6 w0 (w.heap.size+1) 41 #[.int .i64 x2,.int .i64 y2]:=by
  rw [hw0];have h:=((Z6.new ((w.alloc (.cells #[.int .i64 x1,.int .i64 y1] 41))) 41 #[.int .i64 x2,.int .i64 y2]).alloc (.cells #[.int .i64 x3,.int .i64 y3] 41)).alloc (.cells #[.int .i64 x4,.int .i64 y4] 41);simpa using h
 have B3:Z6 w0 (w.heap.size+1+1) 41 #[.int .i64 x3,.int .i64 y3]:=by
  rw [hw0];have h:=(Z6.new (((w.alloc (.cells #[.int .i64 x1,.int .i64 y1] 41)).alloc (.cells #[.int .i64 x2,.int .i64 y2] 41))) 41 #[.int .i64 x3,.int .i64 y3]).alloc (.cells #[.int .i64 x4,.int .i64 y4] 41);simpa using h
 have B4:Z6 w0 (w.heap.size+1+1+1) 41 #[.int .i64 x4,.int .i64 y4]:=by
  rw [hw0];have h:=Z6.new ((((w.alloc (.cells #[.int .i64 x1,.int .i64 y1] 41)).alloc (.cells #[.int .i64 x2,.int .i64 y2] 41)).alloc (.cells #[.int .i64 x3,.int .i64 y3] 41))) 41 #[.int .i64 x4,.int .i64 y4];simpa using h
 have HV:Hid (∀ wk,Calls prog 41 #[.agg #[.int .i64 x1,.int .i64 y1],.agg #[.int .i64 x2,.int .i64 y2],.agg #[.int .i64 x3,.int .i64 y3],.agg #[.int .i64 x4,.int .i64 y4]] wk (Ze (fun _=>True) N wk)):=hide fun wk=>Kh _ _ _ _ _ _ _ _ _ N h1 h2 h3 h4 hN wk (fun _ _=>trivial);have HO:Hid (∀ wk,Calls prog 40 #[.agg #[.int .i64 x1,.int .i64 y1],.agg #[.int .i64 x2,.int .i64 y2],.agg #[.int .i64 x3,.int .i64 y3]] wk fun e w'=>e=.returned (.int .i64 M.sign)/\Below wk.heap.size wk w'):=hide fun wk=>Ko _ _ _ _ _ _ M h1 h2 h3 hM wk;have h00:Zq w0 (w.heap.size) (w.heap.size+1) (w.heap.size+1+1) (w.heap.size+1+1+1) x1 y1 x2 y2 x3 y3 x4 y4 w0:=⟨Below.refl _ _,B1.q0 rfl,B1.q1 rfl,B2.q0 rfl,B2.q1 rfl,B3.q0 rfl,B3.q1 rfl,B4.q0 rfl,B4.q1 rfl⟩;have hd0:=h00.keep (ZU (Below.refl _ _));have HB0:=hide hb0;clear h1 h2 h3 h4 hN hM hb0 B1 B2 B3 B4;go_enter func237,ntmps237;go_wp2_with fail;rw [<- hw0];have HW0:=hide hw0;clear hw0
 go_region_held3 (fun w'=>Below w0.heap.size w0 w'/\w'.cell? ⟨w.heap.size,0,none⟩=some (.int .i64 x1)/\w'.cell? ⟨w.heap.size,1,none⟩=some (.int .i64 y1)/\w'.cell? ⟨w.heap.size+1,0,none⟩=some (.int .i64 x2)/\w'.cell? ⟨w.heap.size+1,1,none⟩=some (.int .i64 y2)/\w'.cell? ⟨w.heap.size+1+1,0,none⟩=some (.int .i64 x3)/\w'.cell? ⟨w.heap.size+1+1,1,none⟩=some (.int .i64 y3)/\w'.cell? ⟨w.heap.size+1+1+1,0,none⟩=some (.int .i64 x4)/\w'.cell? ⟨w.heap.size+1+1+1,1,none⟩=some (.int .i64 y4))
  (first|with_reducible exact hd0|with_reducible exact h00|with_reducible exact Zq.keep (by assumption) (by assumption)|with_reducible exact hd0.keep (by assumption))
  (first
    | (go_at_call 41;((with_reducible refine (HV.out _).mono ?_);rintro e w4 ⟨A4,c4,rfl,Pv,hb4⟩;unfold YQ;have hf:=fun wk=>Mx N.sign (.slice A4 (ZB N.natAbs).length c4) wk))
    | (go_at_call 40;((with_reducible refine (HO.out _).mono ?_);rintro e w5 ⟨rfl,hb5⟩)))
 all_goals
  go_wp2;go_ret;exact ⟨rfl,Z9 HB0.out (And.left (by assumption:Zq w0 (w.heap.size) (w.heap.size+1) (w.heap.size+1+1) (w.heap.size+1+1+1) x1 y1 x2 y2 x3 y3 x4 y4 _))⟩
end
end Go.Proofs.YthnenedoblncjaaGreatDoor