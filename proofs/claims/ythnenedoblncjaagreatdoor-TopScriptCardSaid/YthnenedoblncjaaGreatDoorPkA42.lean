/- RefVal -/
import Derived.Test.YthnenedoblncjaaGreatDoorPkA26
import Derived.Test.YthnenedoblncjaaGreatDoorPkA41
set_option maxRecDepth 1000000
set_option maxHeartbeats 8000000
namespace Go.Proofs.YthnenedoblncjaaGreatDoor
open Go.Proofs.Tryz
section
open Go.RowKit
theorem dl{n:Int}{k:Nat}(h:n.natAbs<65536 ^ k):(ZB n.natAbs).length<=k:=PV h
theorem dl4{x:Int}(h:Xg x):(ZB x.natAbs).length<=4:=dl (by unfold Xg at h;omega)
theorem Vq{x y:Int}(hx:Xg x)(hy:Xg y):(x*y).natAbs<=85070591730234615865843651857942052864:=by
 rw [Int.natAbs_mul];exact Nat.le_trans (Nat.mul_le_mul (show x.natAbs<=9223372036854775808 by unfold Xg at hx;omega) (show y.natAbs<=9223372036854775808 by unfold Xg at hy;omega)) (by decide)
theorem Om(P:Nat->Prop)(x y N:Int)(hx:Xg x)(hy:Xg y)(hN:x*y=N)(w:World)(hP:Up w P):
 Calls prog 174 #[.int .i64 x,.int .i64 y] w (Ze P N w):=by
 obtain ⟨w0,hw0⟩:=eE (w.alloc (.cells #[.int .i64 0,.slice none 0 0] 81));have hb0:=bE hw0;have B0:Z6 w0 w.heap.size 81 #[.int .i64 0,.slice none 0 0]:=by rw [hw0];exact Z6.new _ _ _
 have hsz:w0.heap.size=w.heap.size+1:=by rw [hw0];simp
 have hU:Up w0 (fun k=>P k/\k≠w.heap.size):=hP.ne (Nat.le_refl _) (by omega);have H1:=hide (M0 _ x (by unfold Xg at hx;omega) w0 hU);have H2:Hid (∀ w1,Below w0.heap.size w0 w1->Calls prog 75 #[.int .i64 y] w1 (Ze (fun k=>P k/\k≠w.heap.size) y w1)):=hide fun w1 hb=>M0 _ y (by unfold Xg at hy;omega) w1 (hU.of hb.size)
 have H3:Hid (∀ w1 A c B d,Below w0.heap.size w0 w1->ZJ w1 (fun k=>P k/\k≠w.heap.size) x A c->ZJ w1 (fun k=>P k/\k≠w.heap.size) y B d->Calls prog 74 #[YQ x A c,YQ y B d] w1 (Ze (fun k=>P k/\k≠w.heap.size) N w1)):=hide fun w1 A c B d hb h1 h2=>by
  have h:=Iz _ x y A B c d w1 h1 h2 (Nat.le_trans (dl4 hx) (by omega)) (Nat.le_trans (dl4 hy) (by omega)) (hU.of hb.size);rw [hN] at h;exact h
 have HB0:=hide hb0;have NH:=hide B0;clear hx hy hN hP hU hb0 B0 hsz;go_enter func174,ntmps174;go_wp2_with fail;rw [<- hw0];clear hw0;refine H1.out.mono ?_;rintro e w1 ⟨A1,c1,rfl,hN1,hb1⟩;go_wp2_with fail;refine (H2.out _ hb1).mono ?_;rintro e w2 ⟨A2,c2,rfl,jT,hb2⟩;go_wp2_with fail;refine (H3.out _ _ _ _ _ (Z9 hb1 hb2) (hN1.step hb2) jT).mono ?_;rintro e w5 ⟨A5,c5,rfl,UR,hb5⟩;have Ct:=Z9 HB0.out (Z9 (Z9 hb1 hb2) hb5);have B5:=((NH.out.step hb1).step hb2).step hb5;have b0:=B5.q0 rfl;have b1:=B5.q1 rfl;have f0:=B5.frozen 0;have f1:=B5.frozen 1;unfold YQ;go_wp2;refine bodyPost_ret (Yv rfl rfl ((B5.set 0 _).set 1 _)) rfl ?_;exact XD Ct (Nat.le_refl _) UR
theorem Pm(P:Nat->Prop)(x1 y1 x2 y2 N:Int)(h1:Xg x1)(h2:Xg y1)(h3:Xg x2)(h4:Xg y2)(hN:x1*y2 - y1*x2=N)(w:World)(hP:Up w P):
 Calls prog 122 #[.agg #[.int .i64 x1,.int .i64 y1],.agg #[.int .i64 x2,.int .i64 y2]] w (Ze P N w):=by
 obtain ⟨w0,hw0⟩:=eE (((w.alloc (.cells #[.int .i64 x1,.int .i64 y1] 41)).alloc (.cells #[.int .i64 x2,.int .i64 y2] 41)).alloc (.cells #[.int .i64 0,.slice none 0 0] 81));have hb0:Below w.heap.size w w0:=by rw [hw0];exact Z7 (Z7 (bA) _) _
 have B1:Z6 w0 w.heap.size 41 #[.int .i64 x1,.int .i64 y1]:=by rw [hw0];exact ((Z6.new _ _ _).alloc _).alloc _
 have B2:Z6 w0 (w.heap.size+1) 41 #[.int .i64 x2,.int .i64 y2]:=by rw [hw0];exact (Z6.new2 _ _ _ _).alloc _
 have B3:Z6 w0 (w.heap.size+1+1) 81 #[.int .i64 0,.slice none 0 0]:=by
  rw [hw0];have h:=Z6.new ((w.alloc (.cells #[.int .i64 x1,.int .i64 y1] 41)).alloc (.cells #[.int .i64 x2,.int .i64 y2] 41)) 81 #[.int .i64 0,.slice none 0 0];simpa using h
 have hsz:w0.heap.size=w.heap.size+1+1+1:=by rw [hw0];simp
 have h00:Zn w (w.heap.size+1+1+1) w.heap.size (w.heap.size+1) (w.heap.size+1+1) (.int .i64 x1) (.int .i64 y1) (.int .i64 x2) (.int .i64 y2) w0 :=
  Zn.mk' hb0 (Nat.le_of_eq hsz.symm) ⟨_,_,B3⟩ (B1.q0 rfl) (B1.q1 rfl) (B2.q0 rfl) (B2.q1 rfl)
 obtain ⟨p,hp⟩:=eE (x1*y2);obtain ⟨q,hq⟩:=eE (y1*x2);have bp:=Vq h1 h4;have bq:=Vq h2 h3;rw [<- hp] at bp hN;rw [<- hq] at bq hN;have hU:∀ {wk:World},w.heap.size+1+1+1<=wk.heap.size->Up wk (fun k=>P k/\k≠w.heap.size+1+1):=fun hk=>hP.ne (by omega) (by omega);have H1:Hid (∀ wk,w.heap.size+1+1+1<=wk.heap.size->Calls prog 174 #[.int .i64 x1,.int .i64 y2] wk (Ze (fun k=>P k/\k≠w.heap.size+1+1) p wk)):=hide fun wk hk=>Om _ x1 y2 p h1 h4 hp.symm wk (hU hk);have H2:Hid (∀ wk,w.heap.size+1+1+1<=wk.heap.size->Calls prog 174 #[.int .i64 y1,.int .i64 x2] wk (Ze (fun k=>P k/\k≠w.heap.size+1+1) q wk)):=hide fun wk hk=>Om _ y1 x2 q h2 h3 hq.symm wk (hU hk)
 have H3:Hid (∀ wk A c B d,w.heap.size+1+1+1<=wk.heap.size->ZJ wk (fun k=>P k/\k≠w.heap.size+1+1) p A c->ZJ wk (fun k=>P k/\k≠w.heap.size+1+1) q B d ->
  Calls prog 81 #[.agg #[.int .i64 p.sign,.slice A (ZB p.natAbs).length c],.agg #[.int .i64 q.sign,.slice B (ZB q.natAbs).length d]] wk (Ze (fun k=>P k/\k≠w.heap.size+1+1) N wk)):=hide fun wk A c B d hk ha hb=>by
  have h:=Nh _ p q A B c d wk ha hb (Nat.le_trans (dl (k:=8) (by omega)) (by omega)) (Nat.le_trans (dl (k:=8) (by omega)) (by omega)) (hU hk);rw [hN] at h;exact h
 have hd0:=h00.keep (ZU (Below.refl _ _));have Va:=hide hsz;clear h1 h2 h3 h4 hN hP hU hb0 B1 B2 B3 hsz hp hq bp bq;go_enter func122,ntmps122;go_wp2_with fail;rw [<- hw0];have HW0:=hide hw0;clear hw0
 go_region_held3 (fun w'=>(Below w.heap.size w w'/\(w.heap.size+1+1+1)<=w'.heap.size/\R2 w' (w.heap.size+1+1))/\w'.cell? ⟨w.heap.size,0,none⟩=some (.int .i64 x1)/\w'.cell? ⟨w.heap.size,1,none⟩=some (.int .i64 y1)/\w'.cell? ⟨w.heap.size+1,0,none⟩=some (.int .i64 x2)/\w'.cell? ⟨w.heap.size+1,1,none⟩=some (.int .i64 y2) /\
  w'.cell? ⟨w.heap.size+1+1,0,none⟩=some (Cw w' ⟨w.heap.size+1+1,0,none⟩)/\w'.cell? ⟨w.heap.size+1+1,1,none⟩=some (Cw w' ⟨w.heap.size+1+1,1,none⟩)/\w'.frozen? ⟨w.heap.size+1+1,0,none⟩=false/\w'.frozen? ⟨w.heap.size+1+1,1,none⟩=false)
  (first|with_reducible exact hK6|with_reducible exact hd0|with_reducible exact h00|with_reducible exact Zn.keep (by assumption) (by assumption)|with_reducible exact hd0.keep (by assumption)|exact Zn.set2 (by assumption) (by omega) (by omega) (by omega) _ _)
  (first
    | (go_at_call 174;((with_reducible refine (H1.out _ (by first|exact Zn.big (by assumption))).mono ?_);rintro e w4 ⟨A4,c4,rfl,Pv,hb4⟩;unfold YQ))
    | (go_at_call 174;((with_reducible refine (H2.out _ (by first|exact Zn.big (by assumption))).mono ?_);rintro e w5 ⟨A5,c5,rfl,UR,hb5⟩;unfold YQ))
    | (go_at_call 81;((with_reducible refine (H3.out _ A4 c4 A5 c5 (by first|exact Zn.big (by assumption)) (by first|exact Pv|exact Pv.step hb5) (by first|exact UR|exact UR.step hb4)).mono ?_);rintro e w6 ⟨A6,c6,rfl,NZ,hb6⟩;have hK6:=Zn.keep (by assumption) hb6;unfold YQ)))
 all_goals
  go_wp2;exact bodyPost_ret (R2.run (Zn.row hK6) rfl rfl) rfl (XD (Zn.below hK6) (by omega) NZ)
end
section
open Go.RowKit
abbrev YK(w:World)(n0 g1 g2 g3 g:Nat)(v1 u1 v2 u2 v3 u3:Value)(w':World):Prop :=
 (Below w.heap.size w w'/\n0<=w'.heap.size/\R2 w' g)/\w'.cell? ⟨g1,0,none⟩=some v1/\w'.cell? ⟨g1,1,none⟩=some u1/\w'.cell? ⟨g2,0,none⟩=some v2/\w'.cell? ⟨g2,1,none⟩=some u2/\w'.cell? ⟨g3,0,none⟩=some v3/\w'.cell? ⟨g3,1,none⟩=some u3 /\
 w'.cell? ⟨g,0,none⟩=some (Cw w' ⟨g,0,none⟩)/\w'.cell? ⟨g,1,none⟩=some (Cw w' ⟨g,1,none⟩)/\w'.frozen? ⟨g,0,none⟩=false/\w'.frozen? ⟨g,1,none⟩=false
section
variable {w wk w':World}{n0 g1 g2 g3 g:Nat}{v1 u1 v2 u2 v3 u3:Value}
theorem YK.mk'(hb:Below w.heap.size w w')(hn:n0<=w'.heap.size)(hr:R2 w' g)(h1:w'.cell? ⟨g1,0,none⟩=some v1)(k1:w'.cell? ⟨g1,1,none⟩=some u1)(h2:w'.cell? ⟨g2,0,none⟩=some v2)(k2:w'.cell? ⟨g2,1,none⟩=some u2)(h3:w'.cell? ⟨g3,0,none⟩=some v3)(k3:w'.cell? ⟨g3,1,none⟩=some u3):YK w n0 g1 g2 g3 g v1 u1 v2 u2 v3 u3 w':=by
 have hr':=hr;obtain ⟨u,v,hB⟩:=hr';exact ⟨⟨hb,hn,hr⟩,h1,k1,h2,k2,h3,k3,Cw.of (hB.q0 rfl),Cw.of (hB.q1 rfl),hB.frozen 0,hB.frozen 1⟩
theorem YK.keep(h:YK w n0 g1 g2 g3 g v1 u1 v2 u2 v3 u3 wk)(hb:Below wk.heap.size wk w'):YK w n0 g1 g2 g3 g v1 u1 v2 u2 v3 u3 w':=by
 have on:∀ {b o:Nat} {v:Value},wk.cell? ⟨b,o,none⟩=some v->w'.cell? ⟨b,o,none⟩=some v:=fun h=>(hb.cell (p:=⟨_,_,none⟩) (Zv h)).trans h;obtain ⟨⟨h0,hn,u,v,hB⟩,h1,k1,h2,k2,h3,k3,_⟩:=h;exact YK.mk' (Z9 h0 hb) (Nat.le_trans hn hb.size) ⟨u,v,hB.step hb⟩ (on h1) (on k1) (on h2) (on k2) (on h3) (on k3)
theorem YK.set2(h:YK w n0 g1 g2 g3 g v1 u1 v2 u2 v3 u3 wk)(hne:g1≠g/\g2≠g/\g3≠g)(hg:w.heap.size<=g)(x y:Value):YK w n0 g1 g2 g3 g v1 u1 v2 u2 v3 u3 ((wk.setCell ⟨g,0,none⟩ x).setCell ⟨g,1,none⟩ y):=by
 have on:∀ {b o:Nat} {v:Value},b≠g->wk.cell? ⟨b,o,none⟩=some v->((wk.setCell ⟨g,0,none⟩ x).setCell ⟨g,1,none⟩ y).cell? ⟨b,o,none⟩=some v:=fun hb h=>by
  rw [World.cell?_of_block (Below.heap_setCell _ _ _ _ (by exact hb)),World.cell?_of_block (Below.heap_setCell _ _ _ _ (by exact hb))];exact h
 obtain ⟨⟨h0,hn,u,v,hB⟩,h1,k1,h2,k2,h3,k3,_⟩:=h;exact YK.mk' ((h0.setCell (by exact hg) _).setCell (by exact hg) _) (by simpa [World.size_setCell] using hn) ⟨_,_,(hB.set 0 x).set 1 y⟩ (on (by omega) h1) (on (by omega) k1) (on (by omega) h2) (on (by omega) k2) (on (by omega) h3) (on (by omega) k3)
theorem YK.below(h:YK w n0 g1 g2 g3 g v1 u1 v2 u2 v3 u3 wk):Below w.heap.size w wk:=h.1.1
theorem YK.big(h:YK w n0 g1 g2 g3 g v1 u1 v2 u2 v3 u3 wk):n0<=wk.heap.size:=h.1.2.1
theorem YK.row(h:YK w n0 g1 g2 g3 g v1 u1 v2 u2 v3 u3 wk):R2 wk g:=h.1.2.2
end
theorem Uk{x1 y1 x2 y2:Int}(h1:Xg x1)(h2:Xg y1)(h3:Xg x2)(h4:Xg y2):(x1*y2 - y1*x2).natAbs<=170141183460469231731687303715884105728:=by
 have a:=Vq h1 h4;have b:=Vq h2 h3;omega
theorem SY(P:Nat->Prop)(x1 y1 x2 y2 x3 y3 N:Int)(h1:Xg x1/\Xg y1)(h2:Xg x2/\Xg y2)(h3:Xg x3/\Xg y3)(hN:((x2*y3 - y2*x3) - (x1*y3 - y1*x3))+(x1*y2 - y1*x2)=N)(w:World)(hP:Up w P):
 Calls prog 79 #[.agg #[.int .i64 x1,.int .i64 y1],.agg #[.int .i64 x2,.int .i64 y2],.agg #[.int .i64 x3,.int .i64 y3]] w (Ze P N w):=by
 obtain ⟨w0,hw0⟩:=eE ((((w.alloc (.cells #[.int .i64 x1,.int .i64 y1] 41)).alloc (.cells #[.int .i64 x2,.int .i64 y2] 41)).alloc (.cells #[.int .i64 x3,.int .i64 y3] 41)).alloc (.cells #[.int .i64 0,.slice none 0 0] 81));have hb0:Below w.heap.size w w0:=by rw [hw0];exact Z7 (Z7 (Z7 (bA) _) _) _
 have B1:Z6 w0 (w.heap.size) 41 #[.int .i64 x1,.int .i64 y1]:=by rw [hw0];exact (((Z6.new _ _ _).alloc _).alloc _).alloc _
 have B2:Z6 w0 (w.heap.size+1) 41 #[.int .i64 x2,.int .i64 y2]:=by rw [hw0];exact ((Z6.new2 _ _ _ _).alloc _).alloc _
 have B3:Z6 w0 (w.heap.size+1+1) 41 #[.int .i64 x3,.int .i64 y3]:=by
  rw [hw0];have h:=(Z6.new ((w.alloc (.cells #[.int .i64 x1,.int .i64 y1] 41)).alloc (.cells #[.int .i64 x2,.int .i64 y2] 41)) 41 #[.int .i64 x3,.int .i64 y3]).alloc (.cells #[.int .i64 0,.slice none 0 0] 81);simpa using h
 have B4:Z6 w0 (w.heap.size+1+1+1) 81 #[.int .i64 0,.slice none 0 0]:=by
  rw [hw0];have h:=Z6.new ((((w.alloc (.cells #[.int .i64 x1,.int .i64 y1] 41)).alloc (.cells #[.int .i64 x2,.int .i64 y2] 41)).alloc (.cells #[.int .i64 x3,.int .i64 y3] 41))) 81 #[.int .i64 0,.slice none 0 0];simpa using h
 have hsz:w0.heap.size=w.heap.size+1+1+1+1:=by rw [hw0];simp
 have h00:YK w (w.heap.size+1+1+1+1) (w.heap.size) (w.heap.size+1) (w.heap.size+1+1) (w.heap.size+1+1+1) (.int .i64 x1) (.int .i64 y1) (.int .i64 x2) (.int .i64 y2) (.int .i64 x3) (.int .i64 y3) w0 :=
  YK.mk' hb0 (Nat.le_of_eq hsz.symm) ⟨_,_,B4⟩ (B1.q0 rfl) (B1.q1 rfl) (B2.q0 rfl) (B2.q1 rfl) (B3.q0 rfl) (B3.q1 rfl)
 have hU:∀ {wk:World},w.heap.size+1+1+1+1<=wk.heap.size->Up wk (fun k=>P k/\k≠w.heap.size+1+1+1):=fun hk=>hP.ne (by omega) (by omega);have b1:=Uk h2.1 h2.2 h3.1 h3.2;have b2:=Uk h1.1 h1.2 h3.1 h3.2;have b3:=Uk h1.1 h1.2 h2.1 h2.2;obtain ⟨m,hm⟩:=eE (x2*y3 - y2*x3);obtain ⟨n,hn⟩:=eE (x1*y3 - y1*x3);obtain ⟨p,hp⟩:=eE (x1*y2 - y1*x2);rw [<- hm] at b1 hN;rw [<- hn] at b2 hN;rw [<- hp] at b3 hN;obtain ⟨q,hq⟩:∃ q,m - n=q:=⟨_,rfl⟩;rw [hq] at hN;have H1:Hid (∀ wk,w.heap.size+1+1+1+1<=wk.heap.size->Calls prog 122 #[.agg #[.int .i64 x2,.int .i64 y2],.agg #[.int .i64 x3,.int .i64 y3]] wk (Ze (fun k=>P k/\k≠w.heap.size+1+1+1) m wk)):=hide fun wk hk=>Pm _ _ _ _ _ _ h2.1 h2.2 h3.1 h3.2 hm.symm wk (hU hk);have H2:Hid (∀ wk,w.heap.size+1+1+1+1<=wk.heap.size->Calls prog 122 #[.agg #[.int .i64 x1,.int .i64 y1],.agg #[.int .i64 x3,.int .i64 y3]] wk (Ze (fun k=>P k/\k≠w.heap.size+1+1+1) n wk)):=hide fun wk hk=>Pm _ _ _ _ _ _ h1.1 h1.2 h3.1 h3.2 hn.symm wk (hU hk);have H4:Hid (∀ wk,w.heap.size+1+1+1+1<=wk.heap.size->Calls prog 122 #[.agg #[.int .i64 x1,.int .i64 y1],.agg #[.int .i64 x2,.int .i64 y2]] wk (Ze (fun k=>P k/\k≠w.heap.size+1+1+1) p wk)):=hide fun wk hk=>Pm _ _ _ _ _ _ h1.1 h1.2 h2.1 h2.2 hp.symm wk (hU hk)
 have H3:Hid (∀ wk A c B d,w.heap.size+1+1+1+1<=wk.heap.size->ZJ wk (fun k=>P k/\k≠w.heap.size+1+1+1) m A c->ZJ wk (fun k=>P k/\k≠w.heap.size+1+1+1) n B d->Calls prog 81 #[.agg #[.int .i64 m.sign,.slice A (ZB m.natAbs).length c],.agg #[.int .i64 n.sign,.slice B (ZB n.natAbs).length d]] wk (Ze (fun k=>P k/\k≠w.heap.size+1+1+1) q wk)):=hide fun wk A c B d hk ha hb=>by
  have h:=Nh _ m n A B c d wk ha hb (Nat.le_trans (dl (k:=8) (by omega)) (by omega)) (Nat.le_trans (dl (k:=8) (by omega)) (by omega)) (hU hk);rw [hq] at h;exact h
 have H5:Hid (∀ wk A c B d,w.heap.size+1+1+1+1<=wk.heap.size->ZJ wk (fun k=>P k/\k≠w.heap.size+1+1+1) q A c->ZJ wk (fun k=>P k/\k≠w.heap.size+1+1+1) p B d->Calls prog 73 #[.agg #[.int .i64 q.sign,.slice A (ZB q.natAbs).length c],.agg #[.int .i64 p.sign,.slice B (ZB p.natAbs).length d]] wk (Ze (fun k=>P k/\k≠w.heap.size+1+1+1) N wk)):=hide fun wk A c B d hk ha hb=>by
  have h:=MQ _ q p A B c d wk ha hb (Nat.le_trans (dl (k:=9) (by omega)) (by omega)) (Nat.le_trans (dl (k:=8) (by omega)) (by omega)) (hU hk);rw [hN] at h;exact h
 have hd0:=h00.keep (ZU (Below.refl _ _));have Va:=hide hsz;clear h1 h2 h3 hN hP hU hb0 B1 B2 B3 B4 hsz hm hn hp hq b1 b2 b3;go_enter func79,ntmps79;go_wp2_with fail;rw [<- hw0];have HW0:=hide hw0;clear hw0
 go_region_held3 (fun w'=>(Below w.heap.size w w'/\(w.heap.size+1+1+1+1)<=w'.heap.size/\R2 w' (w.heap.size+1+1+1))/\w'.cell? ⟨w.heap.size,0,none⟩=some (.int .i64 x1)/\w'.cell? ⟨w.heap.size,1,none⟩=some (.int .i64 y1)/\w'.cell? ⟨w.heap.size+1,0,none⟩=some (.int .i64 x2)/\w'.cell? ⟨w.heap.size+1,1,none⟩=some (.int .i64 y2)/\w'.cell? ⟨w.heap.size+1+1,0,none⟩=some (.int .i64 x3)/\w'.cell? ⟨w.heap.size+1+1,1,none⟩=some (.int .i64 y3) /\
  w'.cell? ⟨w.heap.size+1+1+1,0,none⟩=some (Cw w' ⟨w.heap.size+1+1+1,0,none⟩)/\w'.cell? ⟨w.heap.size+1+1+1,1,none⟩=some (Cw w' ⟨w.heap.size+1+1+1,1,none⟩)/\w'.frozen? ⟨w.heap.size+1+1+1,0,none⟩=false/\w'.frozen? ⟨w.heap.size+1+1+1,1,none⟩=false)
  (first|with_reducible exact sM|with_reducible exact hd0|with_reducible exact h00|with_reducible exact YK.keep (by assumption) (by assumption)|with_reducible exact hd0.keep (by assumption)|exact YK.set2 (by assumption) (by omega) (by omega) _ _)
  (first
    | (go_at_call 122;((with_reducible refine (H1.out _ (by first|exact YK.big (by assumption))).mono ?_);rintro e w4 ⟨A4,c4,rfl,Pv,hb4⟩;unfold YQ))
    | (go_at_call 122;((with_reducible refine (H2.out _ (by first|exact YK.big (by assumption))).mono ?_);rintro e w5 ⟨A5,c5,rfl,UR,hb5⟩;unfold YQ))
    | (go_at_call 122;((with_reducible refine (H4.out _ (by first|exact YK.big (by assumption))).mono ?_);rintro e w7 ⟨A7,c7,rfl,Es,Nr⟩;unfold YQ))
    | (go_at_call 81;((with_reducible refine (H3.out _ A4 c4 A5 c5 (by first|exact YK.big (by assumption)) (by first|exact Pv|exact Pv.step hb5|exact Pv.step Nr|exact (Pv.step hb5).step Nr|exact (Pv.step Nr).step hb5) (by first|exact UR|exact UR.step hb4|exact UR.step Nr|exact (UR.step hb4).step Nr|exact (UR.step Nr).step hb4)).mono ?_);rintro e w6 ⟨A6,c6,rfl,NZ,hb6⟩;unfold YQ))
    | (go_at_call 73;((with_reducible refine (H5.out _ A6 c6 A7 c7 (by first|exact YK.big (by assumption)) (by first|exact NZ|exact NZ.step Nr) (by first|exact Es|exact Es.step hb4|exact Es.step hb5|exact Es.step hb6|exact (Es.step hb4).step hb5|exact (Es.step hb4).step hb6|exact (Es.step hb5).step hb4|exact (Es.step hb5).step hb6|exact (Es.step hb6).step hb4|exact (Es.step hb6).step hb5|exact ((Es.step hb4).step hb5).step hb6|exact ((Es.step hb4).step hb6).step hb5|exact ((Es.step hb5).step hb4).step hb6|exact ((Es.step hb5).step hb6).step hb4|exact ((Es.step hb6).step hb4).step hb5|exact ((Es.step hb6).step hb5).step hb4)).mono ?_);rintro e w8 ⟨A8,c8,rfl,hN8,Sm⟩;have sM:=YK.keep (by assumption) Sm;unfold YQ)))
 all_goals
  go_wp2;exact bodyPost_ret (R2.run (YK.row sM) rfl rfl) rfl (XD (YK.below sM) (by omega) hN8)
theorem AZ(a b c:Pt):((b.1*c.2 - b.2*c.1) - (a.1*c.2 - a.2*c.1))+(a.1*b.2 - a.2*b.1)=ZM a b c:=by
 unfold ZM XU;rw [Int.sub_mul,Int.mul_sub,Int.mul_sub,Int.sub_mul,Int.mul_sub,Int.mul_sub,Int.mul_comm a.2 a.1,Int.mul_comm b.1 a.2,Int.mul_comm a.2 b.1,Int.mul_comm b.2 a.1];omega
theorem Mx(n:Int)(v:Value)(w:World):(Instr.field 81 (.agg #[.int .i64 n,v]) 0).run prog w=.ok (.int .i64 n) w:=by
 simp [Instr.field,go_sem];rfl
theorem Ko(x1 y1 x2 y2 x3 y3 N:Int)(h1:Xg x1/\Xg y1)(h2:Xg x2/\Xg y2)(h3:Xg x3/\Xg y3)(hN:((x2*y3 - y2*x3) - (x1*y3 - y1*x3))+(x1*y2 - y1*x2)=N)(w:World):
 Calls prog 40 #[.agg #[.int .i64 x1,.int .i64 y1],.agg #[.int .i64 x2,.int .i64 y2],.agg #[.int .i64 x3,.int .i64 y3]] w fun e w'=>e=.returned (.int .i64 N.sign)/\Below w.heap.size w w':=by
 have H:=hide (SY (fun _=>True) x1 y1 x2 y2 x3 y3 N h1 h2 h3 hN);clear h1 h2 h3 hN;go_enter func40,ntmps40;go_wp2_with fail;refine (H.out _ (fun _ _=>trivial)).mono ?_;rintro e w1 ⟨A1,c1,rfl,hN1,hb1⟩;unfold YQ;have hf:=Mx N.sign (.slice A1 (ZB N.natAbs).length c1) w1;go_wp2;go_ret;exact ⟨rfl,Z9 (Z7 (Z7 (bA) _) _) hb1⟩
theorem RY(a b c:Pt)(ha:PJ a)(hb:PJ b)(hc:PJ c)(w:World):
 Calls prog 40 #[Mh a,Mh b,Mh c] w fun e w'=>e=.returned (.int .i64 (ZM a b c).sign)/\Below w.heap.size w w' :=
 Ko _ _ _ _ _ _ _ ha hb hc (AZ a b c) w
end
end Go.Proofs.YthnenedoblncjaaGreatDoor