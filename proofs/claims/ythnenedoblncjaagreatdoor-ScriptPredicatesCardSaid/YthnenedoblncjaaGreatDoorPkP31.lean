/- RefVal RefCirc -/
import Derived.Test.YthnenedoblncjaaGreatDoorPkP08
import Derived.Test.YthnenedoblncjaaGreatDoorPkP11
set_option maxRecDepth 1000000
set_option maxHeartbeats 8000000
namespace Go.Proofs.YthnenedoblncjaaGreatDoor
section
open Go.RowKit
theorem dl {n:Int} {k:Nat} (h:n.natAbs<65536 ^ k):(digs n.natAbs).length≤k:=digs_len h
theorem dl4 {x:Int} (h:J64 x):(digs x.natAbs).length≤4:=dl (by unfold J64 at h;omega)
theorem coord_bd {x y:Int} (hx:J64 x) (hy:J64 y):(x*y).natAbs≤85070591730234615865843651857942052864:=by
 rw [Int.natAbs_mul]
 exact Nat.le_trans (Nat.mul_le_mul (show x.natAbs≤9223372036854775808 by unfold J64 at hx;omega) (show y.natAbs≤9223372036854775808 by unfold J64 at hy;omega)) (by decide)
theorem product_any (P:Nat→Prop) (x y N:Int) (hx:J64 x) (hy:J64 y) (hN:x*y=N) (w:World) (hP:Up w P) :
 Calls Tryz.prog 174 #[.int .i64 x,.int .i64 y] w (GaveR P N w):=by
 obtain ⟨w0,hw0⟩:∃ w0,w0=w.alloc (.cells #[.int .i64 0,.slice none 0 0] 81):=⟨_,rfl⟩
 have hb0:Below w.heap.size w w0:=by rw [hw0];exact bA
 have B0:Blk w0 w.heap.size 81 #[.int .i64 0,.slice none 0 0]:=by rw [hw0];exact Blk.new _ _ _
 have hsz:w0.heap.size=w.heap.size+1:=by rw [hw0];simp
 have hU:Up w0 (fun k=>P k∧k≠w.heap.size):=hP.ne (Nat.le_refl _) (by omega)
 have H1:=hide (int_any _ x (by unfold J64 at hx;omega) w0 hU)
 have H2:Hid (∀ w1,Below w0.heap.size w0 w1→Calls Tryz.prog 75 #[.int .i64 y] w1 (GaveR (fun k=>P k∧k≠w.heap.size) y w1)):=hide fun w1 hb=>int_any _ y (by unfold J64 at hy;omega) w1 (hU.of hb.size)
 have H3:Hid (∀ w1 A c B d,Below w0.heap.size w0 w1→NumAt w1 (fun k=>P k∧k≠w.heap.size) x A c→NumAt w1 (fun k=>P k∧k≠w.heap.size) y B d→Calls Tryz.prog 74 #[numV x A c,numV y B d] w1 (GaveR (fun k=>P k∧k≠w.heap.size) N w1)):=hide fun w1 A c B d hb h1 h2=>by
  have h:=mul_any _ x y A B c d w1 h1 h2 (Nat.le_trans (dl4 hx) (by omega)) (Nat.le_trans (dl4 hy) (by omega)) (hU.of hb.size)
  rw [hN] at h
  exact h
 have HB0:=hide hb0;have HBB:=hide B0
 clear hx hy hN hP hU hb0 B0 hsz
 go_enter Tryz.func174,Tryz.ntmps174
 go_wp2_with fail
 rw [← hw0]
 clear hw0
 refine H1.out.mono ?_
 rintro e w1 ⟨A1,c1,rfl,hN1,hb1⟩
 go_wp2_with fail
 refine (H2.out _ hb1).mono ?_
 rintro e w2 ⟨A2,c2,rfl,hN2,hb2⟩
 go_wp2_with fail
 refine (H3.out _ _ _ _ _ (bl_step hb1 hb2) (hN1.step hb2) hN2).mono ?_
 rintro e w5 ⟨A5,c5,rfl,hN5,hb5⟩
 have hb55:=bl_step HB0.out (bl_step (bl_step hb1 hb2) hb5)
 have B5:=((HBB.out.step hb1).step hb2).step hb5
 have b0:=B5.cell (i:=0) rfl
 have b1:=B5.cell (i:=1) rfl
 have f0:=B5.frozen 0
 have f1:=B5.frozen 1
 unfold numV
 go_wp2
 refine bodyPost_ret (results_num rfl rfl ((B5.set 0 _).set 1 _)) rfl ?_
 exact gave_set hb55 (Nat.le_refl _) hN5
theorem minor_any (P:Nat→Prop) (x1 y1 x2 y2 N:Int) (h1:J64 x1) (h2:J64 y1) (h3:J64 x2) (h4:J64 y2) (hN:x1*y2 - y1*x2=N) (w:World) (hP:Up w P) :
 Calls Tryz.prog 122 #[.agg #[.int .i64 x1,.int .i64 y1],.agg #[.int .i64 x2,.int .i64 y2]] w (GaveR P N w):=by
 obtain ⟨w0,hw0⟩:∃ w0,w0=((w.alloc (.cells #[.int .i64 x1,.int .i64 y1] 41)).alloc (.cells #[.int .i64 x2,.int .i64 y2] 41)).alloc (.cells #[.int .i64 0,.slice none 0 0] 81):=⟨_,rfl⟩
 have hb0:Below w.heap.size w w0:=by rw [hw0];exact bl_alloc (bl_alloc (bA) _) _
 have B1:Blk w0 w.heap.size 41 #[.int .i64 x1,.int .i64 y1]:=by rw [hw0];exact ((Blk.new _ _ _).alloc _).alloc _
 have B2:Blk w0 (w.heap.size+1) 41 #[.int .i64 x2,.int .i64 y2]:=by rw [hw0];exact (Blk.new2 _ _ _ _).alloc _
 have B3:Blk w0 (w.heap.size+1+1) 81 #[.int .i64 0,.slice none 0 0]:=by
  rw [hw0]
  have h:=Blk.new ((w.alloc (.cells #[.int .i64 x1,.int .i64 y1] 41)).alloc (.cells #[.int .i64 x2,.int .i64 y2] 41)) 81 #[.int .i64 0,.slice none 0 0]
  simpa using h
 have hsz:w0.heap.size=w.heap.size+1+1+1:=by rw [hw0];simp
 have h00:HeldB w (w.heap.size+1+1+1) w.heap.size (w.heap.size+1) (w.heap.size+1+1) (.int .i64 x1) (.int .i64 y1) (.int .i64 x2) (.int .i64 y2) w0 :=
  HeldB.mk' hb0 (Nat.le_of_eq hsz.symm) ⟨_,_,B3⟩ (B1.cell (i:=0) rfl) (B1.cell (i:=1) rfl) (B2.cell (i:=0) rfl) (B2.cell (i:=1) rfl)
 obtain ⟨p,hp⟩:∃ p,p=x1*y2:=⟨_,rfl⟩
 obtain ⟨q,hq⟩:∃ q,q=y1*x2:=⟨_,rfl⟩
 have bp:=coord_bd h1 h4
 have bq:=coord_bd h2 h3
 rw [← hp] at bp hN
 rw [← hq] at bq hN
 have hU:∀ {wk:World},w.heap.size+1+1+1≤wk.heap.size→Up wk (fun k=>P k∧k≠w.heap.size+1+1):=fun hk=>hP.ne (by omega) (by omega)
 have H1:Hid (∀ wk,w.heap.size+1+1+1≤wk.heap.size→Calls Tryz.prog 174 #[.int .i64 x1,.int .i64 y2] wk (GaveR (fun k=>P k∧k≠w.heap.size+1+1) p wk)):=hide fun wk hk=>product_any _ x1 y2 p h1 h4 hp.symm wk (hU hk)
 have H2:Hid (∀ wk,w.heap.size+1+1+1≤wk.heap.size→Calls Tryz.prog 174 #[.int .i64 y1,.int .i64 x2] wk (GaveR (fun k=>P k∧k≠w.heap.size+1+1) q wk)):=hide fun wk hk=>product_any _ y1 x2 q h2 h3 hq.symm wk (hU hk)
 have H3:Hid (∀ wk A c B d,w.heap.size+1+1+1≤wk.heap.size→NumAt wk (fun k=>P k∧k≠w.heap.size+1+1) p A c→NumAt wk (fun k=>P k∧k≠w.heap.size+1+1) q B d →
  Calls Tryz.prog 81 #[.agg #[.int .i64 p.sign,.slice A (digs p.natAbs).length c],.agg #[.int .i64 q.sign,.slice B (digs q.natAbs).length d]] wk (GaveR (fun k=>P k∧k≠w.heap.size+1+1) N wk)):=hide fun wk A c B d hk ha hb=>by
  have h:=sub_any _ p q A B c d wk ha hb (Nat.le_trans (dl (k:=8) (by omega)) (by omega)) (Nat.le_trans (dl (k:=8) (by omega)) (by omega)) (hU hk)
  rw [hN] at h
  exact h
 have hd0:=h00.keep (bl_drew (Below.refl _ _))
 have HSZ:=hide hsz
 clear h1 h2 h3 h4 hN hP hU hb0 B1 B2 B3 hsz hp hq bp bq
 go_enter Tryz.func122,Tryz.ntmps122
 go_wp2_with fail
 rw [← hw0]
 have HW0:=hide hw0
 clear hw0
 go_region_held3 (fun w'=>(Below w.heap.size w w'∧(w.heap.size+1+1+1)≤w'.heap.size∧R2 w' (w.heap.size+1+1))∧w'.cell? ⟨w.heap.size,0,none⟩=some (.int .i64 x1)∧w'.cell? ⟨w.heap.size,1,none⟩=some (.int .i64 y1)∧w'.cell? ⟨w.heap.size+1,0,none⟩=some (.int .i64 x2)∧w'.cell? ⟨w.heap.size+1,1,none⟩=some (.int .i64 y2) ∧
  w'.cell? ⟨w.heap.size+1+1,0,none⟩=some (Cw w' ⟨w.heap.size+1+1,0,none⟩)∧w'.cell? ⟨w.heap.size+1+1,1,none⟩=some (Cw w' ⟨w.heap.size+1+1,1,none⟩)∧w'.frozen? ⟨w.heap.size+1+1,0,none⟩=false∧w'.frozen? ⟨w.heap.size+1+1,1,none⟩=false)
  (first | with_reducible exact hK6 | with_reducible exact hd0 | with_reducible exact h00 | with_reducible exact HeldB.keep (by assumption) (by assumption) | with_reducible exact hd0.keep (by assumption) | exact HeldB.set2 (by assumption) (by omega) (by omega) (by omega) _ _)
  (first
    | (go_at_call 174;((with_reducible refine (H1.out _ (by first | exact HeldB.big (by assumption))).mono ?_);rintro e w4 ⟨A4,c4,rfl,hN4,hb4⟩;unfold numV))
    | (go_at_call 174;((with_reducible refine (H2.out _ (by first | exact HeldB.big (by assumption))).mono ?_);rintro e w5 ⟨A5,c5,rfl,hN5,hb5⟩;unfold numV))
    | (go_at_call 81;((with_reducible refine (H3.out _ A4 c4 A5 c5 (by first | exact HeldB.big (by assumption)) (by first | exact hN4 | exact hN4.step hb5) (by first | exact hN5 | exact hN5.step hb4)).mono ?_);rintro e w6 ⟨A6,c6,rfl,hN6,hb6⟩;have hK6:=HeldB.keep (by assumption) hb6;unfold numV)))
 all_goals
  go_wp2
  exact bodyPost_ret (R2.run (HeldB.row hK6) rfl rfl) rfl (gave_set (HeldB.below hK6) (by omega) hN6)
end
section
open Go.RowKit
abbrev Held3B (w:World) (n0 g1 g2 g3 g:Nat) (v1 u1 v2 u2 v3 u3:Value) (w':World):Prop :=
 (Below w.heap.size w w'∧n0≤w'.heap.size∧R2 w' g)∧w'.cell? ⟨g1,0,none⟩=some v1∧w'.cell? ⟨g1,1,none⟩=some u1∧w'.cell? ⟨g2,0,none⟩=some v2∧w'.cell? ⟨g2,1,none⟩=some u2∧w'.cell? ⟨g3,0,none⟩=some v3∧w'.cell? ⟨g3,1,none⟩=some u3 ∧
 w'.cell? ⟨g,0,none⟩=some (Cw w' ⟨g,0,none⟩)∧w'.cell? ⟨g,1,none⟩=some (Cw w' ⟨g,1,none⟩)∧w'.frozen? ⟨g,0,none⟩=false∧w'.frozen? ⟨g,1,none⟩=false
section
variable {w wk w':World} {n0 g1 g2 g3 g:Nat} {v1 u1 v2 u2 v3 u3:Value}
theorem Held3B.mk' (hb:Below w.heap.size w w') (hn:n0≤w'.heap.size) (hr:R2 w' g) (h1:w'.cell? ⟨g1,0,none⟩=some v1) (k1:w'.cell? ⟨g1,1,none⟩=some u1) (h2:w'.cell? ⟨g2,0,none⟩=some v2) (k2:w'.cell? ⟨g2,1,none⟩=some u2) (h3:w'.cell? ⟨g3,0,none⟩=some v3) (k3:w'.cell? ⟨g3,1,none⟩=some u3):Held3B w n0 g1 g2 g3 g v1 u1 v2 u2 v3 u3 w':=by
 have hr':=hr
 obtain ⟨u,v,hB⟩:=hr'
 exact ⟨⟨hb,hn,hr⟩,h1,k1,h2,k2,h3,k3,Cw.of (hB.cell (i:=0) rfl),Cw.of (hB.cell (i:=1) rfl),hB.frozen 0,hB.frozen 1⟩
theorem Held3B.keep (h:Held3B w n0 g1 g2 g3 g v1 u1 v2 u2 v3 u3 wk) (hb:Below wk.heap.size wk w'):Held3B w n0 g1 g2 g3 g v1 u1 v2 u2 v3 u3 w':=by
 have on:∀ {b o:Nat} {v:Value},wk.cell? ⟨b,o,none⟩=some v→w'.cell? ⟨b,o,none⟩=some v:=fun h=>(hb.cell (p:=⟨_,_,none⟩) (cell_lt h)).trans h
 obtain ⟨⟨h0,hn,u,v,hB⟩,h1,k1,h2,k2,h3,k3,_⟩:=h
 exact Held3B.mk' (bl_step h0 hb) (Nat.le_trans hn hb.size) ⟨u,v,hB.step hb⟩ (on h1) (on k1) (on h2) (on k2) (on h3) (on k3)
theorem Held3B.set2 (h:Held3B w n0 g1 g2 g3 g v1 u1 v2 u2 v3 u3 wk) (hne:g1≠g∧g2≠g∧g3≠g) (hg:w.heap.size≤g) (x y:Value):Held3B w n0 g1 g2 g3 g v1 u1 v2 u2 v3 u3 ((wk.setCell ⟨g,0,none⟩ x).setCell ⟨g,1,none⟩ y):=by
 have on:∀ {b o:Nat} {v:Value},b≠g→wk.cell? ⟨b,o,none⟩=some v→((wk.setCell ⟨g,0,none⟩ x).setCell ⟨g,1,none⟩ y).cell? ⟨b,o,none⟩=some v:=fun hb h=>by
  rw [World.cell?_of_block (Below.heap_setCell _ _ _ _ (by exact hb)),World.cell?_of_block (Below.heap_setCell _ _ _ _ (by exact hb))]
  exact h
 obtain ⟨⟨h0,hn,u,v,hB⟩,h1,k1,h2,k2,h3,k3,_⟩:=h
 exact Held3B.mk' ((h0.setCell (by exact hg) _).setCell (by exact hg) _) (by simpa [World.size_setCell] using hn) ⟨_,_,(hB.set 0 x).set 1 y⟩ (on (by omega) h1) (on (by omega) k1) (on (by omega) h2) (on (by omega) k2) (on (by omega) h3) (on (by omega) k3)
theorem Held3B.below (h:Held3B w n0 g1 g2 g3 g v1 u1 v2 u2 v3 u3 wk):Below w.heap.size w wk:=h.1.1
theorem Held3B.big (h:Held3B w n0 g1 g2 g3 g v1 u1 v2 u2 v3 u3 wk):n0≤wk.heap.size:=h.1.2.1
theorem Held3B.row (h:Held3B w n0 g1 g2 g3 g v1 u1 v2 u2 v3 u3 wk):R2 wk g:=h.1.2.2
end
theorem minor_bd {x1 y1 x2 y2:Int} (h1:J64 x1) (h2:J64 y1) (h3:J64 x2) (h4:J64 y2):(x1*y2 - y1*x2).natAbs≤170141183460469231731687303715884105728:=by
 have a:=coord_bd h1 h4
 have b:=coord_bd h2 h3
 omega
theorem rval_raw (P:Nat→Prop) (x1 y1 x2 y2 x3 y3 N:Int) (h1:J64 x1∧J64 y1) (h2:J64 x2∧J64 y2) (h3:J64 x3∧J64 y3) (hN:((x2*y3 - y2*x3) - (x1*y3 - y1*x3))+(x1*y2 - y1*x2)=N) (w:World) (hP:Up w P) :
 Calls Tryz.prog 79 #[.agg #[.int .i64 x1,.int .i64 y1],.agg #[.int .i64 x2,.int .i64 y2],.agg #[.int .i64 x3,.int .i64 y3]] w (GaveR P N w):=by
 obtain ⟨w0,hw0⟩:∃ w0,w0=(((w.alloc (.cells #[.int .i64 x1,.int .i64 y1] 41)).alloc (.cells #[.int .i64 x2,.int .i64 y2] 41)).alloc (.cells #[.int .i64 x3,.int .i64 y3] 41)).alloc (.cells #[.int .i64 0,.slice none 0 0] 81):=⟨_,rfl⟩
 have hb0:Below w.heap.size w w0:=by rw [hw0];exact bl_alloc (bl_alloc (bl_alloc (bA) _) _) _
 have B1:Blk w0 (w.heap.size) 41 #[.int .i64 x1,.int .i64 y1]:=by rw [hw0];exact (((Blk.new _ _ _).alloc _).alloc _).alloc _
 have B2:Blk w0 (w.heap.size+1) 41 #[.int .i64 x2,.int .i64 y2]:=by rw [hw0];exact ((Blk.new2 _ _ _ _).alloc _).alloc _
 have B3:Blk w0 (w.heap.size+1+1) 41 #[.int .i64 x3,.int .i64 y3]:=by
  rw [hw0]
  have h:=(Blk.new ((w.alloc (.cells #[.int .i64 x1,.int .i64 y1] 41)).alloc (.cells #[.int .i64 x2,.int .i64 y2] 41)) 41 #[.int .i64 x3,.int .i64 y3]).alloc (.cells #[.int .i64 0,.slice none 0 0] 81)
  simpa using h
 have B4:Blk w0 (w.heap.size+1+1+1) 81 #[.int .i64 0,.slice none 0 0]:=by
  rw [hw0]
  have h:=Blk.new ((((w.alloc (.cells #[.int .i64 x1,.int .i64 y1] 41)).alloc (.cells #[.int .i64 x2,.int .i64 y2] 41)).alloc (.cells #[.int .i64 x3,.int .i64 y3] 41))) 81 #[.int .i64 0,.slice none 0 0]
  simpa using h
 have hsz:w0.heap.size=w.heap.size+1+1+1+1:=by rw [hw0];simp
 have h00:Held3B w (w.heap.size+1+1+1+1) (w.heap.size) (w.heap.size+1) (w.heap.size+1+1) (w.heap.size+1+1+1) (.int .i64 x1) (.int .i64 y1) (.int .i64 x2) (.int .i64 y2) (.int .i64 x3) (.int .i64 y3) w0 :=
  Held3B.mk' hb0 (Nat.le_of_eq hsz.symm) ⟨_,_,B4⟩ (B1.cell (i:=0) rfl) (B1.cell (i:=1) rfl) (B2.cell (i:=0) rfl) (B2.cell (i:=1) rfl) (B3.cell (i:=0) rfl) (B3.cell (i:=1) rfl)
 have hU:∀ {wk:World},w.heap.size+1+1+1+1≤wk.heap.size→Up wk (fun k=>P k∧k≠w.heap.size+1+1+1):=fun hk=>hP.ne (by omega) (by omega)
 have b1:=minor_bd h2.1 h2.2 h3.1 h3.2
 have b2:=minor_bd h1.1 h1.2 h3.1 h3.2
 have b3:=minor_bd h1.1 h1.2 h2.1 h2.2
 obtain ⟨m,hm⟩:∃ m,m=x2*y3 - y2*x3:=⟨_,rfl⟩
 obtain ⟨n,hn⟩:∃ n,n=x1*y3 - y1*x3:=⟨_,rfl⟩
 obtain ⟨p,hp⟩:∃ p,p=x1*y2 - y1*x2:=⟨_,rfl⟩
 rw [← hm] at b1 hN
 rw [← hn] at b2 hN
 rw [← hp] at b3 hN
 obtain ⟨q,hq⟩:∃ q,m - n=q:=⟨_,rfl⟩
 rw [hq] at hN
 have H1:Hid (∀ wk,w.heap.size+1+1+1+1≤wk.heap.size→Calls Tryz.prog 122 #[.agg #[.int .i64 x2,.int .i64 y2],.agg #[.int .i64 x3,.int .i64 y3]] wk (GaveR (fun k=>P k∧k≠w.heap.size+1+1+1) m wk)):=hide fun wk hk=>minor_any _ _ _ _ _ _ h2.1 h2.2 h3.1 h3.2 hm.symm wk (hU hk)
 have H2:Hid (∀ wk,w.heap.size+1+1+1+1≤wk.heap.size→Calls Tryz.prog 122 #[.agg #[.int .i64 x1,.int .i64 y1],.agg #[.int .i64 x3,.int .i64 y3]] wk (GaveR (fun k=>P k∧k≠w.heap.size+1+1+1) n wk)):=hide fun wk hk=>minor_any _ _ _ _ _ _ h1.1 h1.2 h3.1 h3.2 hn.symm wk (hU hk)
 have H4:Hid (∀ wk,w.heap.size+1+1+1+1≤wk.heap.size→Calls Tryz.prog 122 #[.agg #[.int .i64 x1,.int .i64 y1],.agg #[.int .i64 x2,.int .i64 y2]] wk (GaveR (fun k=>P k∧k≠w.heap.size+1+1+1) p wk)):=hide fun wk hk=>minor_any _ _ _ _ _ _ h1.1 h1.2 h2.1 h2.2 hp.symm wk (hU hk)
 have H3:Hid (∀ wk A c B d,w.heap.size+1+1+1+1≤wk.heap.size→NumAt wk (fun k=>P k∧k≠w.heap.size+1+1+1) m A c→NumAt wk (fun k=>P k∧k≠w.heap.size+1+1+1) n B d→Calls Tryz.prog 81 #[.agg #[.int .i64 m.sign,.slice A (digs m.natAbs).length c],.agg #[.int .i64 n.sign,.slice B (digs n.natAbs).length d]] wk (GaveR (fun k=>P k∧k≠w.heap.size+1+1+1) q wk)):=hide fun wk A c B d hk ha hb=>by
  have h:=sub_any _ m n A B c d wk ha hb (Nat.le_trans (dl (k:=8) (by omega)) (by omega)) (Nat.le_trans (dl (k:=8) (by omega)) (by omega)) (hU hk)
  rw [hq] at h
  exact h
 have H5:Hid (∀ wk A c B d,w.heap.size+1+1+1+1≤wk.heap.size→NumAt wk (fun k=>P k∧k≠w.heap.size+1+1+1) q A c→NumAt wk (fun k=>P k∧k≠w.heap.size+1+1+1) p B d→Calls Tryz.prog 73 #[.agg #[.int .i64 q.sign,.slice A (digs q.natAbs).length c],.agg #[.int .i64 p.sign,.slice B (digs p.natAbs).length d]] wk (GaveR (fun k=>P k∧k≠w.heap.size+1+1+1) N wk)):=hide fun wk A c B d hk ha hb=>by
  have h:=add_any _ q p A B c d wk ha hb (Nat.le_trans (dl (k:=9) (by omega)) (by omega)) (Nat.le_trans (dl (k:=8) (by omega)) (by omega)) (hU hk)
  rw [hN] at h
  exact h
 have hd0:=h00.keep (bl_drew (Below.refl _ _))
 have HSZ:=hide hsz
 clear h1 h2 h3 hN hP hU hb0 B1 B2 B3 B4 hsz hm hn hp hq b1 b2 b3
 go_enter Tryz.func79,Tryz.ntmps79
 go_wp2_with fail
 rw [← hw0]
 have HW0:=hide hw0
 clear hw0
 go_region_held3 (fun w'=>(Below w.heap.size w w'∧(w.heap.size+1+1+1+1)≤w'.heap.size∧R2 w' (w.heap.size+1+1+1))∧w'.cell? ⟨w.heap.size,0,none⟩=some (.int .i64 x1)∧w'.cell? ⟨w.heap.size,1,none⟩=some (.int .i64 y1)∧w'.cell? ⟨w.heap.size+1,0,none⟩=some (.int .i64 x2)∧w'.cell? ⟨w.heap.size+1,1,none⟩=some (.int .i64 y2)∧w'.cell? ⟨w.heap.size+1+1,0,none⟩=some (.int .i64 x3)∧w'.cell? ⟨w.heap.size+1+1,1,none⟩=some (.int .i64 y3) ∧
  w'.cell? ⟨w.heap.size+1+1+1,0,none⟩=some (Cw w' ⟨w.heap.size+1+1+1,0,none⟩)∧w'.cell? ⟨w.heap.size+1+1+1,1,none⟩=some (Cw w' ⟨w.heap.size+1+1+1,1,none⟩)∧w'.frozen? ⟨w.heap.size+1+1+1,0,none⟩=false∧w'.frozen? ⟨w.heap.size+1+1+1,1,none⟩=false)
  (first | with_reducible exact hK8 | with_reducible exact hd0 | with_reducible exact h00 | with_reducible exact Held3B.keep (by assumption) (by assumption) | with_reducible exact hd0.keep (by assumption) | exact Held3B.set2 (by assumption) (by omega) (by omega) _ _)
  (first
    | (go_at_call 122;((with_reducible refine (H1.out _ (by first | exact Held3B.big (by assumption))).mono ?_);rintro e w4 ⟨A4,c4,rfl,hN4,hb4⟩;unfold numV))
    | (go_at_call 122;((with_reducible refine (H2.out _ (by first | exact Held3B.big (by assumption))).mono ?_);rintro e w5 ⟨A5,c5,rfl,hN5,hb5⟩;unfold numV))
    | (go_at_call 122;((with_reducible refine (H4.out _ (by first | exact Held3B.big (by assumption))).mono ?_);rintro e w7 ⟨A7,c7,rfl,hN7,hb7⟩;unfold numV))
    | (go_at_call 81;((with_reducible refine (H3.out _ A4 c4 A5 c5 (by first | exact Held3B.big (by assumption)) (by first | exact hN4 | exact hN4.step hb5 | exact hN4.step hb7 | exact (hN4.step hb5).step hb7 | exact (hN4.step hb7).step hb5) (by first | exact hN5 | exact hN5.step hb4 | exact hN5.step hb7 | exact (hN5.step hb4).step hb7 | exact (hN5.step hb7).step hb4)).mono ?_);rintro e w6 ⟨A6,c6,rfl,hN6,hb6⟩;unfold numV))
    | (go_at_call 73;((with_reducible refine (H5.out _ A6 c6 A7 c7 (by first | exact Held3B.big (by assumption)) (by first | exact hN6 | exact hN6.step hb7) (by first | exact hN7 | exact hN7.step hb4 | exact hN7.step hb5 | exact hN7.step hb6 | exact (hN7.step hb4).step hb5 | exact (hN7.step hb4).step hb6 | exact (hN7.step hb5).step hb4 | exact (hN7.step hb5).step hb6 | exact (hN7.step hb6).step hb4 | exact (hN7.step hb6).step hb5 | exact ((hN7.step hb4).step hb5).step hb6 | exact ((hN7.step hb4).step hb6).step hb5 | exact ((hN7.step hb5).step hb4).step hb6 | exact ((hN7.step hb5).step hb6).step hb4 | exact ((hN7.step hb6).step hb4).step hb5 | exact ((hN7.step hb6).step hb5).step hb4)).mono ?_);rintro e w8 ⟨A8,c8,rfl,hN8,hb8⟩;have hK8:=Held3B.keep (by assumption) hb8;unfold numV)))
 all_goals
  go_wp2
  exact bodyPost_ret (R2.run (Held3B.row hK8) rfl rfl) rfl (gave_set (Held3B.below hK8) (by omega) hN8)
theorem rorient (a b c:Pt):((b.1*c.2 - b.2*c.1) - (a.1*c.2 - a.2*c.1))+(a.1*b.2 - a.2*b.1)=orientD a b c:=by
 unfold orientD crossD
 rw [Int.sub_mul,Int.mul_sub,Int.mul_sub,Int.sub_mul,Int.mul_sub,Int.mul_sub,Int.mul_comm a.2 a.1,Int.mul_comm b.1 a.2,Int.mul_comm a.2 b.1,Int.mul_comm b.2 a.1]
 omega
theorem run_sign (n:Int) (v:Value) (w:World):(Instr.field 81 (.agg #[.int .i64 n,v]) 0).run Tryz.prog w=.ok (.int .i64 n) w:=by
 simp [Instr.field,go_sem]
 rfl
theorem rsign_raw (x1 y1 x2 y2 x3 y3 N:Int) (h1:J64 x1∧J64 y1) (h2:J64 x2∧J64 y2) (h3:J64 x3∧J64 y3) (hN:((x2*y3 - y2*x3) - (x1*y3 - y1*x3))+(x1*y2 - y1*x2)=N) (w:World) :
 Calls Tryz.prog 40 #[.agg #[.int .i64 x1,.int .i64 y1],.agg #[.int .i64 x2,.int .i64 y2],.agg #[.int .i64 x3,.int .i64 y3]] w fun e w'=>e=.returned (.int .i64 N.sign)∧Below w.heap.size w w':=by
 have H:=hide (rval_raw (fun _=>True) x1 y1 x2 y2 x3 y3 N h1 h2 h3 hN)
 clear h1 h2 h3 hN
 go_enter Tryz.func40,Tryz.ntmps40
 go_wp2_with fail
 refine (H.out _ (fun _ _=>trivial)).mono ?_
 rintro e w1 ⟨A1,c1,rfl,hN1,hb1⟩
 unfold numV
 have hf:=run_sign N.sign (.slice A1 (digs N.natAbs).length c1) w1
 go_wp2
 go_ret
 exact ⟨rfl,bl_step (bl_alloc (bl_alloc (bA) _) _) hb1⟩
theorem rsign_any (a b c:Pt) (ha:PJ a) (hb:PJ b) (hc:PJ c) (w:World) :
 Calls Tryz.prog 40 #[ptV a,ptV b,ptV c] w fun e w'=>e=.returned (.int .i64 (orientD a b c).sign)∧Below w.heap.size w w' :=
 rsign_raw _ _ _ _ _ _ _ ha hb hc (rorient a b c) w
end
section
open Go.RowKit
abbrev HeldQ2 (w:World) (n0 g1 g2 g:Nat) (P:Nat→Prop) (x1:Int) (A1:Option Addr) (c1:Nat) (x2:Int) (A2:Option Addr) (c2:Nat) (w':World):Prop :=
 (Below w.heap.size w w'∧n0≤w'.heap.size∧R2 w' g∧NumAt w' (fun k=>P k∧k≠g) x1 A1 c1∧NumAt w' (fun k=>P k∧k≠g) x2 A2 c2)∧w'.cell? ⟨g1,0,none⟩=some (.int .i64 x1.sign)∧w'.cell? ⟨g1,1,none⟩=some (.slice A1 (digs x1.natAbs).length c1)∧w'.cell? ⟨g2,0,none⟩=some (.int .i64 x2.sign)∧w'.cell? ⟨g2,1,none⟩=some (.slice A2 (digs x2.natAbs).length c2) ∧
 w'.cell? ⟨g,0,none⟩=some (Cw w' ⟨g,0,none⟩)∧w'.cell? ⟨g,1,none⟩=some (Cw w' ⟨g,1,none⟩)∧w'.frozen? ⟨g,0,none⟩=false∧w'.frozen? ⟨g,1,none⟩=false
section
variable {w wk w':World} {n0 g1 g2 g:Nat} {P:Nat→Prop} {x1:Int} {A1:Option Addr} {c1:Nat} {x2:Int} {A2:Option Addr} {c2:Nat}
theorem HeldQ2.mk' (hb:Below w.heap.size w w') (hn:n0≤w'.heap.size) (hr:R2 w' g) (n1:NumAt w' (fun k=>P k∧k≠g) x1 A1 c1) (n2:NumAt w' (fun k=>P k∧k≠g) x2 A2 c2) (h1:w'.cell? ⟨g1,0,none⟩=some (.int .i64 x1.sign)) (k1:w'.cell? ⟨g1,1,none⟩=some (.slice A1 (digs x1.natAbs).length c1)) (h2:w'.cell? ⟨g2,0,none⟩=some (.int .i64 x2.sign)) (k2:w'.cell? ⟨g2,1,none⟩=some (.slice A2 (digs x2.natAbs).length c2)):HeldQ2 w n0 g1 g2 g P x1 A1 c1 x2 A2 c2 w':=by
 have hr':=hr
 obtain ⟨u,v,hB⟩:=hr'
 exact ⟨⟨hb,hn,hr,n1,n2⟩,h1,k1,h2,k2,Cw.of (hB.cell (i:=0) rfl),Cw.of (hB.cell (i:=1) rfl),hB.frozen 0,hB.frozen 1⟩
theorem HeldQ2.keep (h:HeldQ2 w n0 g1 g2 g P x1 A1 c1 x2 A2 c2 wk) (hb:Below wk.heap.size wk w'):HeldQ2 w n0 g1 g2 g P x1 A1 c1 x2 A2 c2 w':=by
 have on:∀ {b o:Nat} {v:Value},wk.cell? ⟨b,o,none⟩=some v→w'.cell? ⟨b,o,none⟩=some v:=fun h=>(hb.cell (p:=⟨_,_,none⟩) (cell_lt h)).trans h
 obtain ⟨⟨h0,hn,⟨u,v,hB⟩,n1,n2⟩,h1,k1,h2,k2,_⟩:=h
 exact HeldQ2.mk' (bl_step h0 hb) (Nat.le_trans hn hb.size) ⟨u,v,hB.step hb⟩ (n1.step hb) (n2.step hb) (on h1) (on k1) (on h2) (on k2)
theorem HeldQ2.set2 (h:HeldQ2 w n0 g1 g2 g P x1 A1 c1 x2 A2 c2 wk) (hne:g1≠g∧g2≠g) (hg:w.heap.size≤g) (x y:Value):HeldQ2 w n0 g1 g2 g P x1 A1 c1 x2 A2 c2 ((wk.setCell ⟨g,0,none⟩ x).setCell ⟨g,1,none⟩ y):=by
 have on:∀ {b o:Nat} {v:Value},b≠g→wk.cell? ⟨b,o,none⟩=some v→((wk.setCell ⟨g,0,none⟩ x).setCell ⟨g,1,none⟩ y).cell? ⟨b,o,none⟩=some v:=fun hb h=>by
  rw [World.cell?_of_block (Below.heap_setCell _ _ _ _ (by exact hb)),World.cell?_of_block (Below.heap_setCell _ _ _ _ (by exact hb))]
  exact h
 obtain ⟨⟨h0,hn,⟨u,v,hB⟩,n1,n2⟩,h1,k1,h2,k2,_⟩:=h
 exact HeldQ2.mk' ((h0.setCell (by exact hg) _).setCell (by exact hg) _) (by simpa [World.size_setCell] using hn) ⟨_,_,(hB.set 0 x).set 1 y⟩ ((n1.set x).set y) ((n2.set x).set y) (on (by omega) h1) (on (by omega) k1) (on (by omega) h2) (on (by omega) k2)
theorem HeldQ2.below (h:HeldQ2 w n0 g1 g2 g P x1 A1 c1 x2 A2 c2 wk):Below w.heap.size w wk:=h.1.1
theorem HeldQ2.big (h:HeldQ2 w n0 g1 g2 g P x1 A1 c1 x2 A2 c2 wk):n0≤wk.heap.size:=h.1.2.1
theorem HeldQ2.num1 (h:HeldQ2 w n0 g1 g2 g P x1 A1 c1 x2 A2 c2 wk):NumAt wk (fun k=>P k∧k≠g) x1 A1 c1:=h.1.2.2.2.1
theorem HeldQ2.num2 (h:HeldQ2 w n0 g1 g2 g P x1 A1 c1 x2 A2 c2 wk):NumAt wk (fun k=>P k∧k≠g) x2 A2 c2:=h.1.2.2.2.2
theorem HeldQ2.row (h:HeldQ2 w n0 g1 g2 g P x1 A1 c1 x2 A2 c2 wk):R2 wk g:=h.1.2.2.1
end
abbrev HeldQ4 (w:World) (n0 g1 g2 g3 g4 g:Nat) (P:Nat→Prop) (x1:Int) (A1:Option Addr) (c1:Nat) (x2:Int) (A2:Option Addr) (c2:Nat) (x3:Int) (A3:Option Addr) (c3:Nat) (x4:Int) (A4:Option Addr) (c4:Nat) (w':World):Prop :=
 (Below w.heap.size w w'∧n0≤w'.heap.size∧R2 w' g∧NumAt w' (fun k=>P k∧k≠g) x1 A1 c1∧NumAt w' (fun k=>P k∧k≠g) x2 A2 c2∧NumAt w' (fun k=>P k∧k≠g) x3 A3 c3∧NumAt w' (fun k=>P k∧k≠g) x4 A4 c4)∧w'.cell? ⟨g1,0,none⟩=some (.int .i64 x1.sign)∧w'.cell? ⟨g1,1,none⟩=some (.slice A1 (digs x1.natAbs).length c1)∧w'.cell? ⟨g2,0,none⟩=some (.int .i64 x2.sign)∧w'.cell? ⟨g2,1,none⟩=some (.slice A2 (digs x2.natAbs).length c2)∧w'.cell? ⟨g3,0,none⟩=some (.int .i64 x3.sign)∧w'.cell? ⟨g3,1,none⟩=some (.slice A3 (digs x3.natAbs).length c3)∧w'.cell? ⟨g4,0,none⟩=some (.int .i64 x4.sign)∧w'.cell? ⟨g4,1,none⟩=some (.slice A4 (digs x4.natAbs).length c4) ∧
 w'.cell? ⟨g,0,none⟩=some (Cw w' ⟨g,0,none⟩)∧w'.cell? ⟨g,1,none⟩=some (Cw w' ⟨g,1,none⟩)∧w'.frozen? ⟨g,0,none⟩=false∧w'.frozen? ⟨g,1,none⟩=false
section
variable {w wk w':World} {n0 g1 g2 g3 g4 g:Nat} {P:Nat→Prop} {x1:Int} {A1:Option Addr} {c1:Nat} {x2:Int} {A2:Option Addr} {c2:Nat} {x3:Int} {A3:Option Addr} {c3:Nat} {x4:Int} {A4:Option Addr} {c4:Nat}
theorem HeldQ4.mk' (hb:Below w.heap.size w w') (hn:n0≤w'.heap.size) (hr:R2 w' g) (n1:NumAt w' (fun k=>P k∧k≠g) x1 A1 c1) (n2:NumAt w' (fun k=>P k∧k≠g) x2 A2 c2) (n3:NumAt w' (fun k=>P k∧k≠g) x3 A3 c3) (n4:NumAt w' (fun k=>P k∧k≠g) x4 A4 c4) (h1:w'.cell? ⟨g1,0,none⟩=some (.int .i64 x1.sign)) (k1:w'.cell? ⟨g1,1,none⟩=some (.slice A1 (digs x1.natAbs).length c1)) (h2:w'.cell? ⟨g2,0,none⟩=some (.int .i64 x2.sign)) (k2:w'.cell? ⟨g2,1,none⟩=some (.slice A2 (digs x2.natAbs).length c2)) (h3:w'.cell? ⟨g3,0,none⟩=some (.int .i64 x3.sign)) (k3:w'.cell? ⟨g3,1,none⟩=some (.slice A3 (digs x3.natAbs).length c3)) (h4:w'.cell? ⟨g4,0,none⟩=some (.int .i64 x4.sign)) (k4:w'.cell? ⟨g4,1,none⟩=some (.slice A4 (digs x4.natAbs).length c4)):HeldQ4 w n0 g1 g2 g3 g4 g P x1 A1 c1 x2 A2 c2 x3 A3 c3 x4 A4 c4 w':=by
 have hr':=hr
 obtain ⟨u,v,hB⟩:=hr'
 exact ⟨⟨hb,hn,hr,n1,n2,n3,n4⟩,h1,k1,h2,k2,h3,k3,h4,k4,Cw.of (hB.cell (i:=0) rfl),Cw.of (hB.cell (i:=1) rfl),hB.frozen 0,hB.frozen 1⟩
theorem HeldQ4.keep (h:HeldQ4 w n0 g1 g2 g3 g4 g P x1 A1 c1 x2 A2 c2 x3 A3 c3 x4 A4 c4 wk) (hb:Below wk.heap.size wk w'):HeldQ4 w n0 g1 g2 g3 g4 g P x1 A1 c1 x2 A2 c2 x3 A3 c3 x4 A4 c4 w':=by
 have on:∀ {b o:Nat} {v:Value},wk.cell? ⟨b,o,none⟩=some v→w'.cell? ⟨b,o,none⟩=some v:=fun h=>(hb.cell (p:=⟨_,_,none⟩) (cell_lt h)).trans h
 obtain ⟨⟨h0,hn,⟨u,v,hB⟩,n1,n2,n3,n4⟩,h1,k1,h2,k2,h3,k3,h4,k4,_⟩:=h
 exact HeldQ4.mk' (bl_step h0 hb) (Nat.le_trans hn hb.size) ⟨u,v,hB.step hb⟩ (n1.step hb) (n2.step hb) (n3.step hb) (n4.step hb) (on h1) (on k1) (on h2) (on k2) (on h3) (on k3) (on h4) (on k4)
theorem HeldQ4.set2 (h:HeldQ4 w n0 g1 g2 g3 g4 g P x1 A1 c1 x2 A2 c2 x3 A3 c3 x4 A4 c4 wk) (hne:g1≠g∧g2≠g∧g3≠g∧g4≠g) (hg:w.heap.size≤g) (x y:Value):HeldQ4 w n0 g1 g2 g3 g4 g P x1 A1 c1 x2 A2 c2 x3 A3 c3 x4 A4 c4 ((wk.setCell ⟨g,0,none⟩ x).setCell ⟨g,1,none⟩ y):=by
 have on:∀ {b o:Nat} {v:Value},b≠g→wk.cell? ⟨b,o,none⟩=some v→((wk.setCell ⟨g,0,none⟩ x).setCell ⟨g,1,none⟩ y).cell? ⟨b,o,none⟩=some v:=fun hb h=>by
  rw [World.cell?_of_block (Below.heap_setCell _ _ _ _ (by exact hb)),World.cell?_of_block (Below.heap_setCell _ _ _ _ (by exact hb))]
  exact h
 obtain ⟨⟨h0,hn,⟨u,v,hB⟩,n1,n2,n3,n4⟩,h1,k1,h2,k2,h3,k3,h4,k4,_⟩:=h
 exact HeldQ4.mk' ((h0.setCell (by exact hg) _).setCell (by exact hg) _) (by simpa [World.size_setCell] using hn) ⟨_,_,(hB.set 0 x).set 1 y⟩ ((n1.set x).set y) ((n2.set x).set y) ((n3.set x).set y) ((n4.set x).set y) (on (by omega) h1) (on (by omega) k1) (on (by omega) h2) (on (by omega) k2) (on (by omega) h3) (on (by omega) k3) (on (by omega) h4) (on (by omega) k4)
theorem HeldQ4.below (h:HeldQ4 w n0 g1 g2 g3 g4 g P x1 A1 c1 x2 A2 c2 x3 A3 c3 x4 A4 c4 wk):Below w.heap.size w wk:=h.1.1
theorem HeldQ4.big (h:HeldQ4 w n0 g1 g2 g3 g4 g P x1 A1 c1 x2 A2 c2 x3 A3 c3 x4 A4 c4 wk):n0≤wk.heap.size:=h.1.2.1
theorem HeldQ4.num1 (h:HeldQ4 w n0 g1 g2 g3 g4 g P x1 A1 c1 x2 A2 c2 x3 A3 c3 x4 A4 c4 wk):NumAt wk (fun k=>P k∧k≠g) x1 A1 c1:=h.1.2.2.2.1
theorem HeldQ4.num2 (h:HeldQ4 w n0 g1 g2 g3 g4 g P x1 A1 c1 x2 A2 c2 x3 A3 c3 x4 A4 c4 wk):NumAt wk (fun k=>P k∧k≠g) x2 A2 c2:=h.1.2.2.2.2.1
theorem HeldQ4.num3 (h:HeldQ4 w n0 g1 g2 g3 g4 g P x1 A1 c1 x2 A2 c2 x3 A3 c3 x4 A4 c4 wk):NumAt wk (fun k=>P k∧k≠g) x3 A3 c3:=h.1.2.2.2.2.2.1
theorem HeldQ4.num4 (h:HeldQ4 w n0 g1 g2 g3 g4 g P x1 A1 c1 x2 A2 c2 x3 A3 c3 x4 A4 c4 wk):NumAt wk (fun k=>P k∧k≠g) x4 A4 c4:=h.1.2.2.2.2.2.2
theorem HeldQ4.row (h:HeldQ4 w n0 g1 g2 g3 g4 g P x1 A1 c1 x2 A2 c2 x3 A3 c3 x4 A4 c4 wk):R2 wk g:=h.1.2.2.1
end
theorem lift_raw (P:Nat→Prop) (x y N:Int) (hx:J64 x) (hy:J64 y) (hN:x*x+y*y=N) (w:World) (hP:Up w P) :
 Calls Tryz.prog 80 #[.agg #[.int .i64 x,.int .i64 y]] w (GaveR P N w):=by
 obtain ⟨w0,hw0⟩:∃ w0,w0=(w.alloc (.cells #[.int .i64 x,.int .i64 y] 41)).alloc (.cells #[.int .i64 0,.slice none 0 0] 81):=⟨_,rfl⟩
 have hb0:Below w.heap.size w w0:=by rw [hw0];exact bl_alloc (bA) _
 have B1:Blk w0 (w.heap.size) 41 #[.int .i64 x,.int .i64 y]:=by rw [hw0];exact (Blk.new _ _ _).alloc _
 have B2:Blk w0 (w.heap.size+1) 81 #[.int .i64 0,.slice none 0 0]:=by rw [hw0];exact Blk.new2 _ _ _ _
 have hsz:w0.heap.size=w.heap.size+1+1:=by rw [hw0];simp
 have hU:∀ {wk:World},w.heap.size+1+1≤wk.heap.size→Up wk (fun k=>P k∧k≠w.heap.size+1):=fun hk=>hP.ne (by omega) (by omega)
 have b1:=coord_bd hx hx
 have b2:=coord_bd hy hy
 obtain ⟨p,hp⟩:∃ p,p=x*x:=⟨_,rfl⟩
 obtain ⟨q,hq⟩:∃ q,q=y*y:=⟨_,rfl⟩
 rw [← hp] at b1 hN
 rw [← hq] at b2 hN
 have HX:Hid (∀ wk,w.heap.size+1+1≤wk.heap.size→Calls Tryz.prog 75 #[.int .i64 x] wk (GaveR (fun k=>P k∧k≠w.heap.size+1) x wk)):=hide fun wk hk=>int_any _ x (by unfold J64 at hx;omega) wk (hU hk)
 have HY:Hid (∀ wk,w.heap.size+1+1≤wk.heap.size→Calls Tryz.prog 75 #[.int .i64 y] wk (GaveR (fun k=>P k∧k≠w.heap.size+1) y wk)):=hide fun wk hk=>int_any _ y (by unfold J64 at hy;omega) wk (hU hk)
 have lx:=dl4 hx
 have ly:=dl4 hy
 have HM1:Hid (∀ wk A c B d,w.heap.size+1+1≤wk.heap.size→NumAt wk (fun k=>P k∧k≠w.heap.size+1) x A c→NumAt wk (fun k=>P k∧k≠w.heap.size+1) x B d→Calls Tryz.prog 74 #[.agg #[.int .i64 x.sign,.slice A (digs x.natAbs).length c],.agg #[.int .i64 x.sign,.slice B (digs x.natAbs).length d]] wk (GaveR (fun k=>P k∧k≠w.heap.size+1) p wk)):=hide fun wk A c B d hk ha hb=>by
  have h:=mul_any _ x x A B c d wk ha hb (by omega) (by omega) (hU hk)
  rw [← hp] at h
  exact h
 have HM2:Hid (∀ wk A c B d,w.heap.size+1+1≤wk.heap.size→NumAt wk (fun k=>P k∧k≠w.heap.size+1) y A c→NumAt wk (fun k=>P k∧k≠w.heap.size+1) y B d→Calls Tryz.prog 74 #[.agg #[.int .i64 y.sign,.slice A (digs y.natAbs).length c],.agg #[.int .i64 y.sign,.slice B (digs y.natAbs).length d]] wk (GaveR (fun k=>P k∧k≠w.heap.size+1) q wk)):=hide fun wk A c B d hk ha hb=>by
  have h:=mul_any _ y y A B c d wk ha hb (by omega) (by omega) (hU hk)
  rw [← hq] at h
  exact h
 have HM3:Hid (∀ wk A c B d,w.heap.size+1+1≤wk.heap.size→NumAt wk (fun k=>P k∧k≠w.heap.size+1) p A c→NumAt wk (fun k=>P k∧k≠w.heap.size+1) q B d→Calls Tryz.prog 73 #[.agg #[.int .i64 p.sign,.slice A (digs p.natAbs).length c],.agg #[.int .i64 q.sign,.slice B (digs q.natAbs).length d]] wk (GaveR (fun k=>P k∧k≠w.heap.size+1) N wk)):=hide fun wk A c B d hk ha hb=>by
  have h:=add_any _ p q A B c d wk ha hb (Nat.le_trans (dl (k:=8) (by omega)) (by omega)) (Nat.le_trans (dl (k:=8) (by omega)) (by omega)) (hU hk)
  rw [hN] at h
  exact h
 have HSZ:=hide hsz;have HB0:=hide hb0;have HB2:=hide B2
 have c0:=B1.cell (i:=0) rfl
 have HC1:Hid (w0.cell? ⟨w.heap.size,1,none⟩=some (.int .i64 y)):=hide (B1.cell (i:=1) rfl)
 clear hx hy hN hP hU hb0 B1 B2 hsz hp hq b1 b2 lx ly
 go_enter Tryz.func80,Tryz.ntmps80
 go_wp2_with fail
 rw [← hw0]
 have HW0:=hide hw0
 clear hw0
 go_wp2_with fail
 refine (HX.out _ (Nat.le_of_eq HSZ.out.symm)).mono ?_
 rintro e w1 ⟨A1,k1,rfl,hN1,hb1⟩
 unfold numV
 have c1:w1.cell? ⟨w.heap.size,1,none⟩=some (.int .i64 y):=(hb1.cell (p:=⟨_,_,none⟩) (cell_lt HC1.out)).trans HC1.out
 clear c0
 obtain ⟨w2,hw2⟩:∃ w2,w2=w1.alloc (.cells #[.int .i64 x.sign,.slice A1 (digs x.natAbs).length k1] 81):=⟨_,rfl⟩
 have BX:Blk w2 w1.heap.size 81 #[.int .i64 x.sign,.slice A1 (digs x.natAbs).length k1]:=by rw [hw2];exact Blk.new _ _ _
 have hb2:Below w1.heap.size w1 w2:=by rw [hw2];exact bA
 have c2:w2.cell? ⟨w.heap.size,1,none⟩=some (.int .i64 y):=(hb2.cell (p:=⟨_,_,none⟩) (cell_lt c1)).trans c1
 have c2a:=c2
 rw [hw2] at c2a
 have c1':=hide c1;have hb1':=hide hb1;have hb2':=hide hb2;have hn1':=hide (hN1.step hb2);have BX':=hide BX
 have hz:w.heap.size+1+1≤w1.heap.size:=by have:=hb1.size;have:=HSZ.out;omega
 clear BX hb1 hb2 hN1
 go_wp2_with fail
 rw [← hw2]
 have HW2:=hide hw2
 clear hw2
 refine (HY.out w2 (by have:=hb2'.out.size;omega)).mono ?_
 rintro e w3 ⟨A2,k2,rfl,hN2,hb3⟩
 unfold numV
 obtain ⟨w4,hw4⟩:∃ w4,w4=w3.alloc (.cells #[.int .i64 y.sign,.slice A2 (digs y.natAbs).length k2] 81):=⟨_,rfl⟩
 have hb4:Below w3.heap.size w3 w4:=by rw [hw4];exact bA
 have BY:Blk w4 w3.heap.size 81 #[.int .i64 y.sign,.slice A2 (digs y.natAbs).length k2]:=by rw [hw4];exact Blk.new _ _ _
 have BX4:=(BX'.out.step hb3).step hb4
 have hz1:w1.heap.size<w2.heap.size:=BX'.out.lt
 have hz3:w2.heap.size≤w3.heap.size:=hb3.size
 have hz4:=hb4.size
 have h00:HeldQ2 w (w.heap.size+1+1) w1.heap.size w3.heap.size (w.heap.size+1) P x A1 k1 y A2 k2 w4 :=
  HeldQ2.mk' (bl_step (bl_step (bl_step (bl_step HB0.out hb1'.out) hb2'.out) hb3) hb4) (by omega) ⟨_,_,(((HB2.out.step hb1'.out).step hb2'.out).step hb3).step hb4⟩ ((hn1'.out.step hb3).step hb4) (hN2.step hb4) (BX4.cell (i:=0) rfl) (BX4.cell (i:=1) rfl) (BY.cell (i:=0) rfl) (BY.cell (i:=1) rfl)
 have hd0:=h00.keep (bl_drew (Below.refl _ _))
 clear BX4 BY hb3 hb4 hN2 c1 c2 c2a
 go_wp2_with fail
 rw [← hw4]
 have HW4:=hide hw4
 clear hw4
 go_region_held3 (fun w'=>(Below w.heap.size w w'∧(w.heap.size+1+1)≤w'.heap.size∧R2 w' (w.heap.size+1)∧NumAt w' (fun k=>P k∧k≠w.heap.size+1) x A1 k1∧NumAt w' (fun k=>P k∧k≠w.heap.size+1) y A2 k2)∧w'.cell? ⟨w1.heap.size,0,none⟩=some (.int .i64 x.sign)∧w'.cell? ⟨w1.heap.size,1,none⟩=some (.slice A1 (digs x.natAbs).length k1)∧w'.cell? ⟨w3.heap.size,0,none⟩=some (.int .i64 y.sign)∧w'.cell? ⟨w3.heap.size,1,none⟩=some (.slice A2 (digs y.natAbs).length k2) ∧
  w'.cell? ⟨w.heap.size+1,0,none⟩=some (Cw w' ⟨w.heap.size+1,0,none⟩)∧w'.cell? ⟨w.heap.size+1,1,none⟩=some (Cw w' ⟨w.heap.size+1,1,none⟩)∧w'.frozen? ⟨w.heap.size+1,0,none⟩=false∧w'.frozen? ⟨w.heap.size+1,1,none⟩=false)
  (first | with_reducible exact hK8 | with_reducible exact hd0 | with_reducible exact h00 | with_reducible exact HeldQ2.keep (by assumption) (by assumption) | with_reducible exact hd0.keep (by assumption) | exact HeldQ2.set2 (by assumption) (by omega) (by omega) _ _)
  (first
    | (go_at_call 74;((with_reducible refine (HM1.out _ A1 k1 A1 k1 (by first | exact HeldQ2.big (by assumption)) (by first | exact HeldQ2.num1 (by assumption)) (by first | exact HeldQ2.num1 (by assumption))).mono ?_);rintro e w5 ⟨A5,c5,rfl,hN5,hb5⟩;unfold numV))
    | (go_at_call 74;((with_reducible refine (HM2.out _ A2 k2 A2 k2 (by first | exact HeldQ2.big (by assumption)) (by first | exact HeldQ2.num2 (by assumption)) (by first | exact HeldQ2.num2 (by assumption))).mono ?_);rintro e w6 ⟨A6,c6,rfl,hN6,hb6⟩;unfold numV))
    | (go_at_call 73;((with_reducible refine (HM3.out _ A5 c5 A6 c6 (by first | exact HeldQ2.big (by assumption)) (by first | exact hN5.step hb6 | exact hN5) (by first | exact hN6 | exact hN6.step hb5)).mono ?_);rintro e w8 ⟨A8,c8,rfl,hN8,hb8⟩;have hK8:=HeldQ2.keep (by assumption) hb8;unfold numV)))
 all_goals
  go_wp2
  exact bodyPost_ret (R2.run (HeldQ2.row hK8) rfl rfl) rfl (gave_set (HeldQ2.below hK8) (by omega) hN8)
end
section
open Go.RowKit
def NumCell (wc wx:World) (P:Nat→Prop) (X:Int) (u:Value):Prop :=
 ∃ K A c,u=.pointer (some ⟨K,0,none⟩)∧Below wc.heap.size wc wx∧Blk wx K 81 #[.int .i64 X.sign,.slice A (digs X.natAbs).length c]∧NumAt wx P X A c∧wc.heap.size≤K
theorem alloc_lt {wk w':World} {cs:Array Value} {t:TypeId} (_hb:Below (wk.alloc (.cells cs t)).heap.size (wk.alloc (.cells cs t)) w'):wk.heap.size<(wk.alloc (.cells cs t)).heap.size:=(Blk.new wk t cs).lt
theorem NumAt.stepA {wk w':World} {P:Nat→Prop} {n:Int} {A:Option Addr} {c:Nat} {X:Obj} (h:NumAt wk P n A c) (hb:Below (wk.alloc X).heap.size (wk.alloc X) w'):NumAt w' P n A c:=(h.step (bA)).step hb
theorem NumAt.al {wk:World} {P:Nat→Prop} {n:Int} {A:Option Addr} {c:Nat} {X:Obj} (h:NumAt wk P n A c):NumAt (wk.alloc X) P n A c:=h.step (bA)
theorem numCell_stored {wc w5 w6:World} {K:Nat} {z0 z1:Value} {P:Nat→Prop} {g:Nat} {X:Int} {A:Option Addr} {c:Nat}
 (hB:Below wc.heap.size wc ((w6.setCell ⟨K,0,none⟩ (.int .i64 X.sign)).setCell ⟨K,1,none⟩ (.slice A (digs X.natAbs).length c))) (hM:Blk w6 K 81 #[z0,z1]) (hK:K<w5.heap.size) (hn:NumAt w6 (fun k=>w5.heap.size≤k) X A c) (hU:Up w5 fun k=>P k∧k≠g) (hge:wc.heap.size≤K) :
 NumCell wc ((w6.setCell ⟨K,0,none⟩ (.int .i64 X.sign)).setCell ⟨K,1,none⟩ (.slice A (digs X.natAbs).length c)) (fun k=>P k∧k≠g) X (.pointer (some ⟨K,0,none⟩)):=by
 refine ⟨K,A,c,rfl,hB,(hM.set 0 _).set 1 _,?_,hge⟩
 have h1:NumAt w6 (fun k=>(P k∧k≠g)∧k≠K) X A c:=hn.mono fun k hk=>⟨hU k hk,by omega⟩
 exact ((h1.set (g:=K) _).set (g:=K) _).mono fun k hk=>hk.1
theorem numCell_made {wc w5 w6:World} {P:Nat→Prop} {g:Nat} {X:Int} {A:Option Addr} {c:Nat}
 (hB:Below wc.heap.size wc (w6.alloc (.cells #[.int .i64 X.sign,.slice A (digs X.natAbs).length c] 81))) (hn:NumAt w6 (fun k=>w5.heap.size≤k) X A c) (hU:Up w5 fun k=>P k∧k≠g) (hge:wc.heap.size≤w6.heap.size) :
 NumCell wc (w6.alloc (.cells #[.int .i64 X.sign,.slice A (digs X.natAbs).length c] 81)) (fun k=>P k∧k≠g) X (.pointer (some ⟨w6.heap.size,0,none⟩)) :=
 ⟨_,A,c,rfl,hB,Blk.new _ _ _,(hn.mono fun k hk=>hU k hk).al,hge⟩
theorem rcircle (a b c d:Pt):((a.1*a.1+a.2*a.2)*(((c.1*d.2 - c.2*d.1) - (b.1*d.2 - b.2*d.1))+(b.1*c.2 - b.2*c.1)) - (b.1*b.1+b.2*b.2)*(((c.1*d.2 - c.2*d.1) - (a.1*d.2 - a.2*d.1))+(a.1*c.2 - a.2*c.1))) +
 ((c.1*c.1+c.2*c.2)*(((b.1*d.2 - b.2*d.1) - (a.1*d.2 - a.2*d.1))+(a.1*b.2 - a.2*b.1)) - (d.1*d.1+d.2*d.2)*(((b.1*c.2 - b.2*c.1) - (a.1*c.2 - a.2*c.1))+(a.1*b.2 - a.2*b.1)))=circleD a b c d:=by
 unfold circleD normD crossD
 grind
theorem lift_bd {x y:Int} (hx:J64 x) (hy:J64 y):(x*x+y*y).natAbs≤170141183460469231731687303715884105728:=by
 have a:=coord_bd hx hx
 have b:=coord_bd hy hy
 omega
theorem val_bd {x1 y1 x2 y2 x3 y3:Int} (h1:J64 x1∧J64 y1) (h2:J64 x2∧J64 y2) (h3:J64 x3∧J64 y3):(((x2*y3 - y2*x3) - (x1*y3 - y1*x3))+(x1*y2 - y1*x2)).natAbs≤510423550381407695195061911147652317184:=by
 have b1:=minor_bd h2.1 h2.2 h3.1 h3.2
 have b2:=minor_bd h1.1 h1.2 h3.1 h3.2
 have b3:=minor_bd h1.1 h1.2 h2.1 h2.2
 omega
theorem lv_bd {l v:Int} (h1:l.natAbs≤170141183460469231731687303715884105728) (h2:v.natAbs≤510423550381407695195061911147652317184):(l*v).natAbs≤170141183460469231731687303715884105728*510423550381407695195061911147652317184:=by
 rw [Int.natAbs_mul]
 exact Nat.mul_le_mul h1 h2
theorem rcval_raw (P:Nat→Prop) (x1 y1 x2 y2 x3 y3 x4 y4 N:Int) (h1:J64 x1∧J64 y1) (h2:J64 x2∧J64 y2) (h3:J64 x3∧J64 y3) (h4:J64 x4∧J64 y4) (hN:((x1*x1+y1*y1)*(((x3*y4 - y3*x4) - (x2*y4 - y2*x4))+(x2*y3 - y2*x3)) - (x2*x2+y2*y2)*(((x3*y4 - y3*x4) - (x1*y4 - y1*x4))+(x1*y3 - y1*x3)))+((x3*x3+y3*y3)*(((x2*y4 - y2*x4) - (x1*y4 - y1*x4))+(x1*y2 - y1*x2)) - (x4*x4+y4*y4)*(((x2*y3 - y2*x3) - (x1*y3 - y1*x3))+(x1*y2 - y1*x2)))=N) (w:World) (hP:Up w P) :
 Calls Tryz.prog 41 #[.agg #[.int .i64 x1,.int .i64 y1],.agg #[.int .i64 x2,.int .i64 y2],.agg #[.int .i64 x3,.int .i64 y3],.agg #[.int .i64 x4,.int .i64 y4]] w (GaveR P N w):=by
 obtain ⟨w0,hw0⟩:∃ w0,w0=((((w.alloc (.cells #[.int .i64 x1,.int .i64 y1] 41)).alloc (.cells #[.int .i64 x2,.int .i64 y2] 41)).alloc (.cells #[.int .i64 x3,.int .i64 y3] 41)).alloc (.cells #[.int .i64 x4,.int .i64 y4] 41)).alloc (.cells #[.int .i64 0,.slice none 0 0] 81):=⟨_,rfl⟩
 have hb0:Below w.heap.size w w0:=by rw [hw0];exact bl_alloc (bl_alloc (bl_alloc (bl_alloc (bA) _) _) _) _
 have B1:Blk w0 (w.heap.size) 41 #[.int .i64 x1,.int .i64 y1]:=by
  rw [hw0]
  have h:=((((Blk.new (w) 41 #[.int .i64 x1,.int .i64 y1]).alloc (.cells #[.int .i64 x2,.int .i64 y2] 41)).alloc (.cells #[.int .i64 x3,.int .i64 y3] 41)).alloc (.cells #[.int .i64 x4,.int .i64 y4] 41)).alloc (.cells #[.int .i64 0,.slice none 0 0] 81)
  simpa using h
 have B2:Blk w0 (w.heap.size+1) 41 #[.int .i64 x2,.int .i64 y2]:=by
  rw [hw0]
  have h:=(((Blk.new ((w.alloc (.cells #[.int .i64 x1,.int .i64 y1] 41))) 41 #[.int .i64 x2,.int .i64 y2]).alloc (.cells #[.int .i64 x3,.int .i64 y3] 41)).alloc (.cells #[.int .i64 x4,.int .i64 y4] 41)).alloc (.cells #[.int .i64 0,.slice none 0 0] 81)
  simpa using h
 have B3:Blk w0 (w.heap.size+1+1) 41 #[.int .i64 x3,.int .i64 y3]:=by
  rw [hw0]
  have h:=((Blk.new (((w.alloc (.cells #[.int .i64 x1,.int .i64 y1] 41)).alloc (.cells #[.int .i64 x2,.int .i64 y2] 41))) 41 #[.int .i64 x3,.int .i64 y3]).alloc (.cells #[.int .i64 x4,.int .i64 y4] 41)).alloc (.cells #[.int .i64 0,.slice none 0 0] 81)
  simpa using h
 have B4:Blk w0 (w.heap.size+1+1+1) 41 #[.int .i64 x4,.int .i64 y4]:=by
  rw [hw0]
  have h:=(Blk.new ((((w.alloc (.cells #[.int .i64 x1,.int .i64 y1] 41)).alloc (.cells #[.int .i64 x2,.int .i64 y2] 41)).alloc (.cells #[.int .i64 x3,.int .i64 y3] 41))) 41 #[.int .i64 x4,.int .i64 y4]).alloc (.cells #[.int .i64 0,.slice none 0 0] 81)
  simpa using h
 have BR:Blk w0 (w.heap.size+1+1+1+1) 81 #[.int .i64 0,.slice none 0 0]:=by
  rw [hw0]
  have h:=Blk.new (((((w.alloc (.cells #[.int .i64 x1,.int .i64 y1] 41)).alloc (.cells #[.int .i64 x2,.int .i64 y2] 41)).alloc (.cells #[.int .i64 x3,.int .i64 y3] 41)).alloc (.cells #[.int .i64 x4,.int .i64 y4] 41))) 81 #[.int .i64 0,.slice none 0 0]
  simpa using h
 have hsz:w0.heap.size=w.heap.size+1+1+1+1+1:=by rw [hw0];simp
 have hU:∀ {wk:World},w.heap.size+1+1+1+1+1≤wk.heap.size→Up wk (fun k=>P k∧k≠w.heap.size+1+1+1+1):=fun hk=>hP.ne (by omega) (by omega)
 have lb1:=lift_bd h1.1 h1.2
 have vb1:=val_bd h2 h3 h4
 obtain ⟨l1,hl1⟩:∃ l,l=(x1*x1+y1*y1):=⟨_,rfl⟩
 obtain ⟨v1,hv1⟩:∃ v,v=(((x3*y4 - y3*x4) - (x2*y4 - y2*x4))+(x2*y3 - y2*x3)):=⟨_,rfl⟩
 rw [← hl1] at lb1 hN
 rw [← hv1] at vb1 hN
 have lb2:=lift_bd h2.1 h2.2
 have vb2:=val_bd h1 h3 h4
 obtain ⟨l2,hl2⟩:∃ l,l=(x2*x2+y2*y2):=⟨_,rfl⟩
 obtain ⟨v2,hv2⟩:∃ v,v=(((x3*y4 - y3*x4) - (x1*y4 - y1*x4))+(x1*y3 - y1*x3)):=⟨_,rfl⟩
 rw [← hl2] at lb2 hN
 rw [← hv2] at vb2 hN
 have lb3:=lift_bd h3.1 h3.2
 have vb3:=val_bd h1 h2 h4
 obtain ⟨l3,hl3⟩:∃ l,l=(x3*x3+y3*y3):=⟨_,rfl⟩
 obtain ⟨v3,hv3⟩:∃ v,v=(((x2*y4 - y2*x4) - (x1*y4 - y1*x4))+(x1*y2 - y1*x2)):=⟨_,rfl⟩
 rw [← hl3] at lb3 hN
 rw [← hv3] at vb3 hN
 have lb4:=lift_bd h4.1 h4.2
 have vb4:=val_bd h1 h2 h3
 obtain ⟨l4,hl4⟩:∃ l,l=(x4*x4+y4*y4):=⟨_,rfl⟩
 obtain ⟨v4,hv4⟩:∃ v,v=(((x2*y3 - y2*x3) - (x1*y3 - y1*x3))+(x1*y2 - y1*x2)):=⟨_,rfl⟩
 rw [← hl4] at lb4 hN
 rw [← hv4] at vb4 hN
 have tb1:=lv_bd lb1 vb1
 obtain ⟨X,hX⟩:∃ t,t=l1*v1:=⟨_,rfl⟩
 rw [← hX] at tb1 hN
 have tb2:=lv_bd lb2 vb2
 obtain ⟨Y,hY⟩:∃ t,t=l2*v2:=⟨_,rfl⟩
 rw [← hY] at tb2 hN
 have tb3:=lv_bd lb3 vb3
 obtain ⟨Z,hZ⟩:∃ t,t=l3*v3:=⟨_,rfl⟩
 rw [← hZ] at tb3 hN
 have tb4:=lv_bd lb4 vb4
 obtain ⟨W,hW⟩:∃ t,t=l4*v4:=⟨_,rfl⟩
 rw [← hW] at tb4 hN
 obtain ⟨S,hS⟩:∃ t,X - Y=t:=⟨_,rfl⟩
 obtain ⟨T,hT⟩:∃ t,Z - W=t:=⟨_,rfl⟩
 rw [hS,hT] at hN
 have HL1:Hid (∀ wk,Calls Tryz.prog 80 #[.agg #[.int .i64 x1,.int .i64 y1]] wk (GaveR (fun _=>True) l1 wk)):=hide fun wk=>lift_raw _ x1 y1 l1 h1.1 h1.2 hl1.symm wk (fun _ _=>trivial)
 have HV1:Hid (∀ wk,Calls Tryz.prog 79 #[.agg #[.int .i64 x2,.int .i64 y2],.agg #[.int .i64 x3,.int .i64 y3],.agg #[.int .i64 x4,.int .i64 y4]] wk (GaveR (fun _=>True) v1 wk)):=hide fun wk=>rval_raw _ _ _ _ _ _ _ v1 h2 h3 h4 hv1.symm wk (fun _ _=>trivial)
 have HM1:Hid (∀ wk A c B d,NumAt wk (fun _=>True) l1 A c→NumAt wk (fun _=>True) v1 B d→Calls Tryz.prog 74 #[.agg #[.int .i64 l1.sign,.slice A (digs l1.natAbs).length c],.agg #[.int .i64 v1.sign,.slice B (digs v1.natAbs).length d]] wk (GaveR (fun k=>wk.heap.size≤k) X wk)):=hide fun wk A c B d ha hb=>by
  have h:=mul_any' (fun k=>wk.heap.size≤k) l1 v1 A B c d wk ha hb (Nat.le_trans (dl (k:=9) (by omega)) (by omega)) (Nat.le_trans (dl (k:=9) (by omega)) (by omega)) (fun _ hk=>hk)
  rw [← hX] at h
  exact h
 have HL2:Hid (∀ wk,Calls Tryz.prog 80 #[.agg #[.int .i64 x2,.int .i64 y2]] wk (GaveR (fun _=>True) l2 wk)):=hide fun wk=>lift_raw _ x2 y2 l2 h2.1 h2.2 hl2.symm wk (fun _ _=>trivial)
 have HV2:Hid (∀ wk,Calls Tryz.prog 79 #[.agg #[.int .i64 x1,.int .i64 y1],.agg #[.int .i64 x3,.int .i64 y3],.agg #[.int .i64 x4,.int .i64 y4]] wk (GaveR (fun _=>True) v2 wk)):=hide fun wk=>rval_raw _ _ _ _ _ _ _ v2 h1 h3 h4 hv2.symm wk (fun _ _=>trivial)
 have HM2:Hid (∀ wk A c B d,NumAt wk (fun _=>True) l2 A c→NumAt wk (fun _=>True) v2 B d→Calls Tryz.prog 74 #[.agg #[.int .i64 l2.sign,.slice A (digs l2.natAbs).length c],.agg #[.int .i64 v2.sign,.slice B (digs v2.natAbs).length d]] wk (GaveR (fun k=>wk.heap.size≤k) Y wk)):=hide fun wk A c B d ha hb=>by
  have h:=mul_any' (fun k=>wk.heap.size≤k) l2 v2 A B c d wk ha hb (Nat.le_trans (dl (k:=9) (by omega)) (by omega)) (Nat.le_trans (dl (k:=9) (by omega)) (by omega)) (fun _ hk=>hk)
  rw [← hY] at h
  exact h
 have HL3:Hid (∀ wk,Calls Tryz.prog 80 #[.agg #[.int .i64 x3,.int .i64 y3]] wk (GaveR (fun _=>True) l3 wk)):=hide fun wk=>lift_raw _ x3 y3 l3 h3.1 h3.2 hl3.symm wk (fun _ _=>trivial)
 have HV3:Hid (∀ wk,Calls Tryz.prog 79 #[.agg #[.int .i64 x1,.int .i64 y1],.agg #[.int .i64 x2,.int .i64 y2],.agg #[.int .i64 x4,.int .i64 y4]] wk (GaveR (fun _=>True) v3 wk)):=hide fun wk=>rval_raw _ _ _ _ _ _ _ v3 h1 h2 h4 hv3.symm wk (fun _ _=>trivial)
 have HM3:Hid (∀ wk A c B d,NumAt wk (fun _=>True) l3 A c→NumAt wk (fun _=>True) v3 B d→Calls Tryz.prog 74 #[.agg #[.int .i64 l3.sign,.slice A (digs l3.natAbs).length c],.agg #[.int .i64 v3.sign,.slice B (digs v3.natAbs).length d]] wk (GaveR (fun k=>wk.heap.size≤k) Z wk)):=hide fun wk A c B d ha hb=>by
  have h:=mul_any' (fun k=>wk.heap.size≤k) l3 v3 A B c d wk ha hb (Nat.le_trans (dl (k:=9) (by omega)) (by omega)) (Nat.le_trans (dl (k:=9) (by omega)) (by omega)) (fun _ hk=>hk)
  rw [← hZ] at h
  exact h
 have HL4:Hid (∀ wk,Calls Tryz.prog 80 #[.agg #[.int .i64 x4,.int .i64 y4]] wk (GaveR (fun _=>True) l4 wk)):=hide fun wk=>lift_raw _ x4 y4 l4 h4.1 h4.2 hl4.symm wk (fun _ _=>trivial)
 have HV4:Hid (∀ wk,Calls Tryz.prog 79 #[.agg #[.int .i64 x1,.int .i64 y1],.agg #[.int .i64 x2,.int .i64 y2],.agg #[.int .i64 x3,.int .i64 y3]] wk (GaveR (fun _=>True) v4 wk)):=hide fun wk=>rval_raw _ _ _ _ _ _ _ v4 h1 h2 h3 hv4.symm wk (fun _ _=>trivial)
 have HM4:Hid (∀ wk A c B d,NumAt wk (fun _=>True) l4 A c→NumAt wk (fun _=>True) v4 B d→Calls Tryz.prog 74 #[.agg #[.int .i64 l4.sign,.slice A (digs l4.natAbs).length c],.agg #[.int .i64 v4.sign,.slice B (digs v4.natAbs).length d]] wk (GaveR (fun k=>wk.heap.size≤k) W wk)):=hide fun wk A c B d ha hb=>by
  have h:=mul_any' (fun k=>wk.heap.size≤k) l4 v4 A B c d wk ha hb (Nat.le_trans (dl (k:=9) (by omega)) (by omega)) (Nat.le_trans (dl (k:=9) (by omega)) (by omega)) (fun _ hk=>hk)
  rw [← hW] at h
  exact h
 have HS1:Hid (∀ wk A c B d,w.heap.size+1+1+1+1+1≤wk.heap.size→NumAt wk (fun k=>P k∧k≠w.heap.size+1+1+1+1) X A c→NumAt wk (fun k=>P k∧k≠w.heap.size+1+1+1+1) Y B d→Calls Tryz.prog 81 #[.agg #[.int .i64 X.sign,.slice A (digs X.natAbs).length c],.agg #[.int .i64 Y.sign,.slice B (digs Y.natAbs).length d]] wk (GaveR (fun k=>P k∧k≠w.heap.size+1+1+1+1) S wk)):=hide fun wk A c B d hk ha hb=>by
  have h:=sub_any _ X Y A B c d wk ha hb (Nat.le_trans (dl (k:=18) (by omega)) (by omega)) (Nat.le_trans (dl (k:=18) (by omega)) (by omega)) (hU hk)
  rw [hS] at h
  exact h
 have HS2:Hid (∀ wk A c B d,w.heap.size+1+1+1+1+1≤wk.heap.size→NumAt wk (fun k=>P k∧k≠w.heap.size+1+1+1+1) Z A c→NumAt wk (fun k=>P k∧k≠w.heap.size+1+1+1+1) W B d→Calls Tryz.prog 81 #[.agg #[.int .i64 Z.sign,.slice A (digs Z.natAbs).length c],.agg #[.int .i64 W.sign,.slice B (digs W.natAbs).length d]] wk (GaveR (fun k=>P k∧k≠w.heap.size+1+1+1+1) T wk)):=hide fun wk A c B d hk ha hb=>by
  have h:=sub_any _ Z W A B c d wk ha hb (Nat.le_trans (dl (k:=18) (by omega)) (by omega)) (Nat.le_trans (dl (k:=18) (by omega)) (by omega)) (hU hk)
  rw [hT] at h
  exact h
 have HS3:Hid (∀ wk A c B d,w.heap.size+1+1+1+1+1≤wk.heap.size→NumAt wk (fun k=>P k∧k≠w.heap.size+1+1+1+1) S A c→NumAt wk (fun k=>P k∧k≠w.heap.size+1+1+1+1) T B d→Calls Tryz.prog 73 #[.agg #[.int .i64 S.sign,.slice A (digs S.natAbs).length c],.agg #[.int .i64 T.sign,.slice B (digs T.natAbs).length d]] wk (GaveR (fun k=>P k∧k≠w.heap.size+1+1+1+1) N wk)):=hide fun wk A c B d hk ha hb=>by
  have h:=add_any _ S T A B c d wk ha hb (Nat.le_trans (dl (k:=18) (by omega)) (by omega)) (Nat.le_trans (dl (k:=18) (by omega)) (by omega)) (hU hk)
  rw [hN] at h
  exact h
 have h00:Held4P w0 (w.heap.size) (w.heap.size+1) (w.heap.size+1+1) (w.heap.size+1+1+1) x1 y1 x2 y2 x3 y3 x4 y4 w0:=⟨Below.refl _ _,B1.cell (i:=0) rfl,B1.cell (i:=1) rfl,B2.cell (i:=0) rfl,B2.cell (i:=1) rfl,B3.cell (i:=0) rfl,B3.cell (i:=1) rfl,B4.cell (i:=0) rfl,B4.cell (i:=1) rfl⟩
 have HUU:=hide (hU (wk:=w0) (by omega))
 have HSZ:=hide hsz;have HB0:=hide hb0;have HBR:=hide BR
 clear h1 h2 h3 h4 hN hP hU hb0 B1 B2 B3 B4 BR hsz hS hT hX hY hZ hW hl1 hl2 hl3 hl4 hv1 hv2 hv3 hv4 lb1 lb2 lb3 lb4 vb1 vb2 vb3 vb4 tb1 tb2 tb3 tb4
 have HL:Hid (w.heap.size<w0.heap.size∧w.heap.size+1<w0.heap.size∧w.heap.size+1+1<w0.heap.size∧w.heap.size+1+1+1<w0.heap.size):=hide (by have:=HSZ.out;omega)
 go_enter Tryz.func41,Tryz.ntmps41
 go_wp2_with fail
 rw [← hw0]
 have HW0:=hide hw0
 clear hw0
 have hd0:=h00.keep (bl_drew (Below.refl _ _))
 go_cut [9] from 13 to 19 (fun u wx=>NumCell w0 wx (fun k=>P k∧k≠w.heap.size+1+1+1+1) X u)
 case first =>
  go_region_held3 (fun w'=>Below w0.heap.size w0 w'∧w'.cell? ⟨w.heap.size,0,none⟩=some (.int .i64 x1)∧w'.cell? ⟨w.heap.size,1,none⟩=some (.int .i64 y1)∧w'.cell? ⟨w.heap.size+1,0,none⟩=some (.int .i64 x2)∧w'.cell? ⟨w.heap.size+1,1,none⟩=some (.int .i64 y2)∧w'.cell? ⟨w.heap.size+1+1,0,none⟩=some (.int .i64 x3)∧w'.cell? ⟨w.heap.size+1+1,1,none⟩=some (.int .i64 y3)∧w'.cell? ⟨w.heap.size+1+1+1,0,none⟩=some (.int .i64 x4)∧w'.cell? ⟨w.heap.size+1+1+1,1,none⟩=some (.int .i64 y4))
   (first | with_reducible exact Held4P.set HL.out (Held4P.set HL.out (by assumption) (by have z1:=hb4.size;have z2:=hb5.size;have z3:=hb6.size;simp only [World.drew] at z1 z2 z3;omega) _ _) (by have z1:=hb4.size;have z2:=hb5.size;have z3:=hb6.size;simp only [World.drew] at z1 z2 z3;omega) _ _ | with_reducible exact hd0 | with_reducible exact h00 | with_reducible exact Held4P.keep (by assumption) (by assumption) | with_reducible exact hd0.keep (by assumption) | with_reducible exact Held4P.keep (by assumption) (bA) | with_reducible exact hd0.keep (bA) | with_reducible exact Held4P.realloc HL.out (by assumption) (by have z1:=hb4.size;have z2:=hb5.size;have z3:=hb6.size;simp only [World.drew] at z1 z2 z3;omega))
   (first
     | (go_at_call 80;((with_reducible refine (HL1.out _).mono ?_);rintro e w4 ⟨A4,c4,rfl,hN4,hb4⟩;unfold numV;(first | (have hM4:=alloc_kept_drew hb4;have z0:=hM4.cell (i:=0) rfl;have z1:=hM4.cell (i:=1) rfl;have y0:=hM4.frozen 0;have y1:=hM4.frozen 1) | skip)))
     | (go_at_call 79;((with_reducible refine (HV1.out _).mono ?_);rintro e w5 ⟨A5,c5,rfl,hN5,hb5⟩;unfold numV;(first | (have hN45:=hN4.step hb5) | (have hN45:=hN4.stepA hb5));(first | (have hM5:=alloc_kept hb5;have z0:=hM5.cell (i:=0) rfl;have z1:=hM5.cell (i:=1) rfl;have y0:=hM5.frozen 0;have y1:=hM5.frozen 1) | (have hM5:=hM4.step hb5;have z0:=hM5.cell (i:=0) rfl;have z1:=hM5.cell (i:=1) rfl;have y0:=hM5.frozen 0;have y1:=hM5.frozen 1) | skip)))
     | (go_at_call 74;((with_reducible refine (HM1.out _ A4 c4 A5 c5 (by first | with_reducible exact hN45 | with_reducible exact hN45.al) (by first | with_reducible exact hN5 | with_reducible exact hN5.al)).mono ?_);rintro e w6 ⟨A6,c6,rfl,hN6,hb6⟩;unfold numV;(first | (have hM6:=alloc_kept hb6;have hL6:=alloc_lt hb6;have z0:=hM6.cell (i:=0) rfl;have z1:=hM6.cell (i:=1) rfl;have y0:=hM6.frozen 0;have y1:=hM6.frozen 1) | (have hM6:=hM5.step hb6;have hL6:=hM5.lt;have z0:=hM6.cell (i:=0) rfl;have z1:=hM6.cell (i:=1) rfl;have y0:=hM6.frozen 0;have y1:=hM6.frozen 1) | skip))))
  all_goals
   rename_i hHeldL
   have hBB:=hHeldL.1
   (first | (with_reducible have FIN:=hide (numCell_stored hBB hM6 hL6 hN6 (HUU.out.of (by have z1:=hb4.size;have z2:=hb5.size;simp only [World.drew,World.size_alloc] at z1 z2 ⊢;omega)) (by have z1:=hb4.size;have z2:=hb5.size;have z3:=hb6.size;simp only [World.drew] at z1 z2 z3;omega))) | (with_reducible have FIN:=hide (numCell_made hBB hN6 (HUU.out.of (by have z1:=hb4.size;have z2:=hb5.size;simp only [World.drew] at z1 z2 ⊢;omega)) (by have z1:=hb4.size;have z2:=hb5.size;have z3:=hb6.size;simp only [World.drew] at z1 z2 z3;omega))))
   clear hHeldL hBB hN4 hN5 hN45 hN6 hb4 hb5 hb6
  all_goals go_wp2_with fail
  all_goals go_meet
  all_goals exact FIN.out
 case rest =>
  obtain ⟨K1,A10,c10,rfl,hbx,hblk,hnum,hge⟩:=hcut
  have HX1:=hide hblk;have HN10:=hide hnum;have HBx1:=hide hbx;have hK1:=hge;have hKl1:=hblk.lt;have hsx1:=hbx.size
  have HL1c:Hid (w.heap.size<wc.heap.size∧w.heap.size+1<wc.heap.size∧w.heap.size+1+1<wc.heap.size∧w.heap.size+1+1+1<wc.heap.size):=hide (by have h1:=HL.out;omega)
  have HU1c:=hide (HUU.out.of hbx.size)
  have h1c:Held4P wc (w.heap.size) (w.heap.size+1) (w.heap.size+1+1) (w.heap.size+1+1+1) x1 y1 x2 y2 x3 y3 x4 y4 wc:=by
   have h:=h00.keep hbx
   exact ⟨Below.refl _ _,h.2⟩
  clear hbx hblk hnum hge hd0 h00
  go_wp2_with fail
  have hd0:=h1c.keep (bl_drew (Below.refl _ _))
  go_cut [10] from 20 to 26 (fun u wx=>NumCell wc wx (fun k=>P k∧k≠w.heap.size+1+1+1+1) Y u)
  case first =>
   go_region_held3 (fun w'=>Below wc.heap.size wc w'∧w'.cell? ⟨w.heap.size,0,none⟩=some (.int .i64 x1)∧w'.cell? ⟨w.heap.size,1,none⟩=some (.int .i64 y1)∧w'.cell? ⟨w.heap.size+1,0,none⟩=some (.int .i64 x2)∧w'.cell? ⟨w.heap.size+1,1,none⟩=some (.int .i64 y2)∧w'.cell? ⟨w.heap.size+1+1,0,none⟩=some (.int .i64 x3)∧w'.cell? ⟨w.heap.size+1+1,1,none⟩=some (.int .i64 y3)∧w'.cell? ⟨w.heap.size+1+1+1,0,none⟩=some (.int .i64 x4)∧w'.cell? ⟨w.heap.size+1+1+1,1,none⟩=some (.int .i64 y4))
    (first | with_reducible exact Held4P.set HL1c.out (Held4P.set HL1c.out (by assumption) (by have z1:=hb4.size;have z2:=hb5.size;have z3:=hb6.size;simp only [World.drew] at z1 z2 z3;omega) _ _) (by have z1:=hb4.size;have z2:=hb5.size;have z3:=hb6.size;simp only [World.drew] at z1 z2 z3;omega) _ _ | with_reducible exact hd0 | with_reducible exact h1c | with_reducible exact Held4P.keep (by assumption) (by assumption) | with_reducible exact hd0.keep (by assumption) | with_reducible exact Held4P.keep (by assumption) (bA) | with_reducible exact hd0.keep (bA) | with_reducible exact Held4P.realloc HL1c.out (by assumption) (by have z1:=hb4.size;have z2:=hb5.size;have z3:=hb6.size;simp only [World.drew] at z1 z2 z3;omega))
    (first
      | (go_at_call 80;((with_reducible refine (HL2.out _).mono ?_);rintro e w4 ⟨A4,c4,rfl,hN4,hb4⟩;unfold numV;(first | (have hM4:=alloc_kept_drew hb4;have z0:=hM4.cell (i:=0) rfl;have z1:=hM4.cell (i:=1) rfl;have y0:=hM4.frozen 0;have y1:=hM4.frozen 1) | skip)))
      | (go_at_call 79;((with_reducible refine (HV2.out _).mono ?_);rintro e w5 ⟨A5,c5,rfl,hN5,hb5⟩;unfold numV;(first | (have hN45:=hN4.step hb5) | (have hN45:=hN4.stepA hb5));(first | (have hM5:=alloc_kept hb5;have z0:=hM5.cell (i:=0) rfl;have z1:=hM5.cell (i:=1) rfl;have y0:=hM5.frozen 0;have y1:=hM5.frozen 1) | (have hM5:=hM4.step hb5;have z0:=hM5.cell (i:=0) rfl;have z1:=hM5.cell (i:=1) rfl;have y0:=hM5.frozen 0;have y1:=hM5.frozen 1) | skip)))
      | (go_at_call 74;((with_reducible refine (HM2.out _ A4 c4 A5 c5 (by first | with_reducible exact hN45 | with_reducible exact hN45.al) (by first | with_reducible exact hN5 | with_reducible exact hN5.al)).mono ?_);rintro e w6 ⟨A6,c6,rfl,hN6,hb6⟩;unfold numV;(first | (have hM6:=alloc_kept hb6;have hL6:=alloc_lt hb6;have z0:=hM6.cell (i:=0) rfl;have z1:=hM6.cell (i:=1) rfl;have y0:=hM6.frozen 0;have y1:=hM6.frozen 1) | (have hM6:=hM5.step hb6;have hL6:=hM5.lt;have z0:=hM6.cell (i:=0) rfl;have z1:=hM6.cell (i:=1) rfl;have y0:=hM6.frozen 0;have y1:=hM6.frozen 1) | skip))))
   all_goals
    rename_i hHeldL
    have hBB:=hHeldL.1
    (first | (with_reducible have FIN:=hide (numCell_stored hBB hM6 hL6 hN6 (HU1c.out.of (by have z1:=hb4.size;have z2:=hb5.size;simp only [World.drew,World.size_alloc] at z1 z2 ⊢;omega)) (by have z1:=hb4.size;have z2:=hb5.size;have z3:=hb6.size;simp only [World.drew] at z1 z2 z3;omega))) | (with_reducible have FIN:=hide (numCell_made hBB hN6 (HU1c.out.of (by have z1:=hb4.size;have z2:=hb5.size;simp only [World.drew] at z1 z2 ⊢;omega)) (by have z1:=hb4.size;have z2:=hb5.size;have z3:=hb6.size;simp only [World.drew] at z1 z2 z3;omega))))
    clear hHeldL hBB hN4 hN5 hN45 hN6 hb4 hb5 hb6
   all_goals go_wp2_with fail
   all_goals go_meet
   all_goals exact FIN.out
  case rest =>
   obtain ⟨K2,A20,c20,rfl,hbx,hblk,hnum,hge⟩:=hcut
   have HX2:=hide hblk;have HN20:=hide hnum;have HBx2:=hide hbx;have hK2:=hge;have hKl2:=hblk.lt;have hsx2:=hbx.size
   have HL2c:Hid (w.heap.size<wc.heap.size∧w.heap.size+1<wc.heap.size∧w.heap.size+1+1<wc.heap.size∧w.heap.size+1+1+1<wc.heap.size):=hide (by have h1:=HL1c.out;omega)
   have HU2c:=hide (HU1c.out.of hbx.size)
   have h2c:Held4P wc (w.heap.size) (w.heap.size+1) (w.heap.size+1+1) (w.heap.size+1+1+1) x1 y1 x2 y2 x3 y3 x4 y4 wc:=by
    have h:=h1c.keep hbx
    exact ⟨Below.refl _ _,h.2⟩
   clear hbx hblk hnum hge hd0 h1c
   go_wp2_with fail
   have hd0:=h2c.keep (bl_drew (Below.refl _ _))
   go_cut [11] from 27 to 33 (fun u wx=>NumCell wc wx (fun k=>P k∧k≠w.heap.size+1+1+1+1) Z u)
   case first =>
    go_region_held3 (fun w'=>Below wc.heap.size wc w'∧w'.cell? ⟨w.heap.size,0,none⟩=some (.int .i64 x1)∧w'.cell? ⟨w.heap.size,1,none⟩=some (.int .i64 y1)∧w'.cell? ⟨w.heap.size+1,0,none⟩=some (.int .i64 x2)∧w'.cell? ⟨w.heap.size+1,1,none⟩=some (.int .i64 y2)∧w'.cell? ⟨w.heap.size+1+1,0,none⟩=some (.int .i64 x3)∧w'.cell? ⟨w.heap.size+1+1,1,none⟩=some (.int .i64 y3)∧w'.cell? ⟨w.heap.size+1+1+1,0,none⟩=some (.int .i64 x4)∧w'.cell? ⟨w.heap.size+1+1+1,1,none⟩=some (.int .i64 y4))
     (first | with_reducible exact Held4P.set HL2c.out (Held4P.set HL2c.out (by assumption) (by have z1:=hb4.size;have z2:=hb5.size;have z3:=hb6.size;simp only [World.drew] at z1 z2 z3;omega) _ _) (by have z1:=hb4.size;have z2:=hb5.size;have z3:=hb6.size;simp only [World.drew] at z1 z2 z3;omega) _ _ | with_reducible exact hd0 | with_reducible exact h2c | with_reducible exact Held4P.keep (by assumption) (by assumption) | with_reducible exact hd0.keep (by assumption) | with_reducible exact Held4P.keep (by assumption) (bA) | with_reducible exact hd0.keep (bA) | with_reducible exact Held4P.realloc HL2c.out (by assumption) (by have z1:=hb4.size;have z2:=hb5.size;have z3:=hb6.size;simp only [World.drew] at z1 z2 z3;omega))
     (first
       | (go_at_call 80;((with_reducible refine (HL3.out _).mono ?_);rintro e w4 ⟨A4,c4,rfl,hN4,hb4⟩;unfold numV;(first | (have hM4:=alloc_kept_drew hb4;have z0:=hM4.cell (i:=0) rfl;have z1:=hM4.cell (i:=1) rfl;have y0:=hM4.frozen 0;have y1:=hM4.frozen 1) | skip)))
       | (go_at_call 79;((with_reducible refine (HV3.out _).mono ?_);rintro e w5 ⟨A5,c5,rfl,hN5,hb5⟩;unfold numV;(first | (have hN45:=hN4.step hb5) | (have hN45:=hN4.stepA hb5));(first | (have hM5:=alloc_kept hb5;have z0:=hM5.cell (i:=0) rfl;have z1:=hM5.cell (i:=1) rfl;have y0:=hM5.frozen 0;have y1:=hM5.frozen 1) | (have hM5:=hM4.step hb5;have z0:=hM5.cell (i:=0) rfl;have z1:=hM5.cell (i:=1) rfl;have y0:=hM5.frozen 0;have y1:=hM5.frozen 1) | skip)))
       | (go_at_call 74;((with_reducible refine (HM3.out _ A4 c4 A5 c5 (by first | with_reducible exact hN45 | with_reducible exact hN45.al) (by first | with_reducible exact hN5 | with_reducible exact hN5.al)).mono ?_);rintro e w6 ⟨A6,c6,rfl,hN6,hb6⟩;unfold numV;(first | (have hM6:=alloc_kept hb6;have hL6:=alloc_lt hb6;have z0:=hM6.cell (i:=0) rfl;have z1:=hM6.cell (i:=1) rfl;have y0:=hM6.frozen 0;have y1:=hM6.frozen 1) | (have hM6:=hM5.step hb6;have hL6:=hM5.lt;have z0:=hM6.cell (i:=0) rfl;have z1:=hM6.cell (i:=1) rfl;have y0:=hM6.frozen 0;have y1:=hM6.frozen 1) | skip))))
    all_goals
     rename_i hHeldL
     have hBB:=hHeldL.1
     (first | (with_reducible have FIN:=hide (numCell_stored hBB hM6 hL6 hN6 (HU2c.out.of (by have z1:=hb4.size;have z2:=hb5.size;simp only [World.drew,World.size_alloc] at z1 z2 ⊢;omega)) (by have z1:=hb4.size;have z2:=hb5.size;have z3:=hb6.size;simp only [World.drew] at z1 z2 z3;omega))) | (with_reducible have FIN:=hide (numCell_made hBB hN6 (HU2c.out.of (by have z1:=hb4.size;have z2:=hb5.size;simp only [World.drew] at z1 z2 ⊢;omega)) (by have z1:=hb4.size;have z2:=hb5.size;have z3:=hb6.size;simp only [World.drew] at z1 z2 z3;omega))))
     clear hHeldL hBB hN4 hN5 hN45 hN6 hb4 hb5 hb6
    all_goals go_wp2_with fail
    all_goals go_meet
    all_goals exact FIN.out
   case rest =>
    obtain ⟨K3,A30,c30,rfl,hbx,hblk,hnum,hge⟩:=hcut
    have HX3:=hide hblk;have HN30:=hide hnum;have HBx3:=hide hbx;have hK3:=hge;have hKl3:=hblk.lt;have hsx3:=hbx.size
    have HL3c:Hid (w.heap.size<wc.heap.size∧w.heap.size+1<wc.heap.size∧w.heap.size+1+1<wc.heap.size∧w.heap.size+1+1+1<wc.heap.size):=hide (by have h1:=HL2c.out;omega)
    have HU3c:=hide (HU2c.out.of hbx.size)
    have h3c:Held4P wc (w.heap.size) (w.heap.size+1) (w.heap.size+1+1) (w.heap.size+1+1+1) x1 y1 x2 y2 x3 y3 x4 y4 wc:=by
     have h:=h2c.keep hbx
     exact ⟨Below.refl _ _,h.2⟩
    clear hbx hblk hnum hge hd0 h2c
    go_wp2_with fail
    have hd0:=h3c.keep (bl_drew (Below.refl _ _))
    go_cut [12] from 34 to 40 (fun u wx=>NumCell wc wx (fun k=>P k∧k≠w.heap.size+1+1+1+1) W u)
    case first =>
     go_region_held3 (fun w'=>Below wc.heap.size wc w'∧w'.cell? ⟨w.heap.size,0,none⟩=some (.int .i64 x1)∧w'.cell? ⟨w.heap.size,1,none⟩=some (.int .i64 y1)∧w'.cell? ⟨w.heap.size+1,0,none⟩=some (.int .i64 x2)∧w'.cell? ⟨w.heap.size+1,1,none⟩=some (.int .i64 y2)∧w'.cell? ⟨w.heap.size+1+1,0,none⟩=some (.int .i64 x3)∧w'.cell? ⟨w.heap.size+1+1,1,none⟩=some (.int .i64 y3)∧w'.cell? ⟨w.heap.size+1+1+1,0,none⟩=some (.int .i64 x4)∧w'.cell? ⟨w.heap.size+1+1+1,1,none⟩=some (.int .i64 y4))
      (first | with_reducible exact Held4P.set HL3c.out (Held4P.set HL3c.out (by assumption) (by have z1:=hb4.size;have z2:=hb5.size;have z3:=hb6.size;simp only [World.drew] at z1 z2 z3;omega) _ _) (by have z1:=hb4.size;have z2:=hb5.size;have z3:=hb6.size;simp only [World.drew] at z1 z2 z3;omega) _ _ | with_reducible exact hd0 | with_reducible exact h3c | with_reducible exact Held4P.keep (by assumption) (by assumption) | with_reducible exact hd0.keep (by assumption) | with_reducible exact Held4P.keep (by assumption) (bA) | with_reducible exact hd0.keep (bA) | with_reducible exact Held4P.realloc HL3c.out (by assumption) (by have z1:=hb4.size;have z2:=hb5.size;have z3:=hb6.size;simp only [World.drew] at z1 z2 z3;omega))
      (first
        | (go_at_call 80;((with_reducible refine (HL4.out _).mono ?_);rintro e w4 ⟨A4,c4,rfl,hN4,hb4⟩;unfold numV;(first | (have hM4:=alloc_kept_drew hb4;have z0:=hM4.cell (i:=0) rfl;have z1:=hM4.cell (i:=1) rfl;have y0:=hM4.frozen 0;have y1:=hM4.frozen 1) | skip)))
        | (go_at_call 79;((with_reducible refine (HV4.out _).mono ?_);rintro e w5 ⟨A5,c5,rfl,hN5,hb5⟩;unfold numV;(first | (have hN45:=hN4.step hb5) | (have hN45:=hN4.stepA hb5));(first | (have hM5:=alloc_kept hb5;have z0:=hM5.cell (i:=0) rfl;have z1:=hM5.cell (i:=1) rfl;have y0:=hM5.frozen 0;have y1:=hM5.frozen 1) | (have hM5:=hM4.step hb5;have z0:=hM5.cell (i:=0) rfl;have z1:=hM5.cell (i:=1) rfl;have y0:=hM5.frozen 0;have y1:=hM5.frozen 1) | skip)))
        | (go_at_call 74;((with_reducible refine (HM4.out _ A4 c4 A5 c5 (by first | with_reducible exact hN45 | with_reducible exact hN45.al) (by first | with_reducible exact hN5 | with_reducible exact hN5.al)).mono ?_);rintro e w6 ⟨A6,c6,rfl,hN6,hb6⟩;unfold numV;(first | (have hM6:=alloc_kept hb6;have hL6:=alloc_lt hb6;have z0:=hM6.cell (i:=0) rfl;have z1:=hM6.cell (i:=1) rfl;have y0:=hM6.frozen 0;have y1:=hM6.frozen 1) | (have hM6:=hM5.step hb6;have hL6:=hM5.lt;have z0:=hM6.cell (i:=0) rfl;have z1:=hM6.cell (i:=1) rfl;have y0:=hM6.frozen 0;have y1:=hM6.frozen 1) | skip))))
     all_goals
      rename_i hHeldL
      have hBB:=hHeldL.1
      (first | (with_reducible have FIN:=hide (numCell_stored hBB hM6 hL6 hN6 (HU3c.out.of (by have z1:=hb4.size;have z2:=hb5.size;simp only [World.drew,World.size_alloc] at z1 z2 ⊢;omega)) (by have z1:=hb4.size;have z2:=hb5.size;have z3:=hb6.size;simp only [World.drew] at z1 z2 z3;omega))) | (with_reducible have FIN:=hide (numCell_made hBB hN6 (HU3c.out.of (by have z1:=hb4.size;have z2:=hb5.size;simp only [World.drew] at z1 z2 ⊢;omega)) (by have z1:=hb4.size;have z2:=hb5.size;have z3:=hb6.size;simp only [World.drew] at z1 z2 z3;omega))))
      clear hHeldL hBB hN4 hN5 hN45 hN6 hb4 hb5 hb6
     all_goals go_wp2_with fail
     all_goals go_meet
     all_goals exact FIN.out
    case rest =>
     obtain ⟨K4,A40,c40,rfl,hbx,hblk,hnum,hge⟩:=hcut
     have HX4:=hide hblk;have HN40:=hide hnum;have HBx4:=hide hbx;have hK4:=hge;have hKl4:=hblk.lt;have hsx4:=hbx.size
     have HL4c:Hid (w.heap.size<wc.heap.size∧w.heap.size+1<wc.heap.size∧w.heap.size+1+1<wc.heap.size∧w.heap.size+1+1+1<wc.heap.size):=hide (by have h1:=HL3c.out;omega)
     have HU4c:=hide (HU3c.out.of hbx.size)
     have h4c:Held4P wc (w.heap.size) (w.heap.size+1) (w.heap.size+1+1) (w.heap.size+1+1+1) x1 y1 x2 y2 x3 y3 x4 y4 wc:=by
      have h:=h3c.keep hbx
      exact ⟨Below.refl _ _,h.2⟩
     clear hbx hblk hnum hge hd0 h3c
     go_wp2_with fail
     have hbw:Below w.heap.size w wc:=bl_step (bl_step (bl_step (bl_step HB0.out HBx1.out) HBx2.out) HBx3.out) HBx4.out
     have hr:R2 wc (w.heap.size+1+1+1+1):=⟨_,_,(((HBR.out.step HBx1.out).step HBx2.out).step HBx3.out).step HBx4.out⟩
     have bx1:=((HX1.out.step HBx2.out).step HBx3.out).step HBx4.out
     have nx1:=((HN10.out.step HBx2.out).step HBx3.out).step HBx4.out
     have bx2:=(HX2.out.step HBx3.out).step HBx4.out
     have nx2:=(HN20.out.step HBx3.out).step HBx4.out
     have bx3:=HX3.out.step HBx4.out
     have nx3:=HN30.out.step HBx4.out
     have bx4:=HX4.out
     have nx4:=HN40.out
     have hzz:=HSZ.out
     have hq00:HeldQ4 w (w.heap.size+1+1+1+1+1) K1 K2 K3 K4 (w.heap.size+1+1+1+1) P X A10 c10 Y A20 c20 Z A30 c30 W A40 c40 wc :=
      HeldQ4.mk' hbw (by omega) hr nx1 nx2 nx3 nx4 (bx1.cell (i:=0) rfl) (bx1.cell (i:=1) rfl) (bx2.cell (i:=0) rfl) (bx2.cell (i:=1) rfl) (bx3.cell (i:=0) rfl) (bx3.cell (i:=1) rfl) (bx4.cell (i:=0) rfl) (bx4.cell (i:=1) rfl)
     have hd0:=hq00.keep (bl_drew (Below.refl _ _))
     have e1:K1≠w.heap.size+1+1+1+1∧K2≠w.heap.size+1+1+1+1∧K3≠w.heap.size+1+1+1+1∧K4≠w.heap.size+1+1+1+1:=by omega
     clear hbw hr bx1 nx1 bx2 nx2 bx3 nx3 bx4 nx4
     go_region_held3 (fun w'=>(Below w.heap.size w w'∧(w.heap.size+1+1+1+1+1)≤w'.heap.size∧R2 w' (w.heap.size+1+1+1+1)∧NumAt w' (fun k=>P k∧k≠w.heap.size+1+1+1+1) X A10 c10∧NumAt w' (fun k=>P k∧k≠w.heap.size+1+1+1+1) Y A20 c20∧NumAt w' (fun k=>P k∧k≠w.heap.size+1+1+1+1) Z A30 c30∧NumAt w' (fun k=>P k∧k≠w.heap.size+1+1+1+1) W A40 c40)∧w'.cell? ⟨K1,0,none⟩=some (.int .i64 X.sign)∧w'.cell? ⟨K1,1,none⟩=some (.slice A10 (digs X.natAbs).length c10)∧w'.cell? ⟨K2,0,none⟩=some (.int .i64 Y.sign)∧w'.cell? ⟨K2,1,none⟩=some (.slice A20 (digs Y.natAbs).length c20)∧w'.cell? ⟨K3,0,none⟩=some (.int .i64 Z.sign)∧w'.cell? ⟨K3,1,none⟩=some (.slice A30 (digs Z.natAbs).length c30)∧w'.cell? ⟨K4,0,none⟩=some (.int .i64 W.sign)∧w'.cell? ⟨K4,1,none⟩=some (.slice A40 (digs W.natAbs).length c40) ∧
      w'.cell? ⟨w.heap.size+1+1+1+1,0,none⟩=some (Cw w' ⟨w.heap.size+1+1+1+1,0,none⟩)∧w'.cell? ⟨w.heap.size+1+1+1+1,1,none⟩=some (Cw w' ⟨w.heap.size+1+1+1+1,1,none⟩)∧w'.frozen? ⟨w.heap.size+1+1+1+1,0,none⟩=false∧w'.frozen? ⟨w.heap.size+1+1+1+1,1,none⟩=false)
      (first | with_reducible exact hK8 | with_reducible exact hd0 | with_reducible exact hq00 | with_reducible exact HeldQ4.keep (by assumption) (by assumption) | with_reducible exact hd0.keep (by assumption) | exact HeldQ4.set2 (by assumption) e1 (by omega) _ _)
      (first
        | (go_at_call 81;((with_reducible refine (HS1.out _ A10 c10 A20 c20 (by first | exact HeldQ4.big (by assumption)) (by first | exact HeldQ4.num1 (by assumption)) (by first | exact HeldQ4.num2 (by assumption))).mono ?_);rintro e w5 ⟨A5,c5,rfl,hN5,hb5⟩;unfold numV))
        | (go_at_call 81;((with_reducible refine (HS2.out _ A30 c30 A40 c40 (by first | exact HeldQ4.big (by assumption)) (by first | exact HeldQ4.num3 (by assumption)) (by first | exact HeldQ4.num4 (by assumption))).mono ?_);rintro e w6 ⟨A6,c6,rfl,hN6,hb6⟩;unfold numV))
        | (go_at_call 73;((with_reducible refine (HS3.out _ A5 c5 A6 c6 (by first | exact HeldQ4.big (by assumption)) (by first | exact hN5.step hb6 | exact hN5) (by first | exact hN6 | exact hN6.step hb5)).mono ?_);rintro e w8 ⟨A8,c8,rfl,hN8,hb8⟩;have hK8:=HeldQ4.keep (by assumption) hb8;unfold numV)))
     all_goals
      go_wp2
      exact bodyPost_ret (R2.run (HeldQ4.row hK8) rfl rfl) rfl (gave_set (HeldQ4.below hK8) (by omega) hN8)
theorem rside_raw (x1 y1 x2 y2 x3 y3 x4 y4 N M s:Int) (h1:J64 x1∧J64 y1) (h2:J64 x2∧J64 y2) (h3:J64 x3∧J64 y3) (h4:J64 x4∧J64 y4) (hN:((x1*x1+y1*y1)*(((x3*y4 - y3*x4) - (x2*y4 - y2*x4))+(x2*y3 - y2*x3)) - (x2*x2+y2*y2)*(((x3*y4 - y3*x4) - (x1*y4 - y1*x4))+(x1*y3 - y1*x3)))+((x3*x3+y3*y3)*(((x2*y4 - y2*x4) - (x1*y4 - y1*x4))+(x1*y2 - y1*x2)) - (x4*x4+y4*y4)*(((x2*y3 - y2*x3) - (x1*y3 - y1*x3))+(x1*y2 - y1*x2)))=N) (hM:(((x2*y3 - y2*x3) - (x1*y3 - y1*x3))+(x1*y2 - y1*x2))=M) (hs:IntKind.i64.wrap (N.sign*M.sign)=s) (w:World) :
 Calls Tryz.prog 237 #[.agg #[.int .i64 x1,.int .i64 y1],.agg #[.int .i64 x2,.int .i64 y2],.agg #[.int .i64 x3,.int .i64 y3],.agg #[.int .i64 x4,.int .i64 y4]] w fun e w'=>e=.returned (.int .i64 s)∧Below w.heap.size w w':=by
 obtain ⟨w0,hw0⟩:∃ w0,w0=((((w.alloc (.cells #[.int .i64 x1,.int .i64 y1] 41)).alloc (.cells #[.int .i64 x2,.int .i64 y2] 41)).alloc (.cells #[.int .i64 x3,.int .i64 y3] 41)).alloc (.cells #[.int .i64 x4,.int .i64 y4] 41)):=⟨_,rfl⟩
 have hb0:Below w.heap.size w w0:=by rw [hw0];exact bl_alloc (bl_alloc (bl_alloc (bA) _) _) _
 have B1:Blk w0 (w.heap.size) 41 #[.int .i64 x1,.int .i64 y1]:=by
  rw [hw0]
  have h:=(((Blk.new (w) 41 #[.int .i64 x1,.int .i64 y1]).alloc (.cells #[.int .i64 x2,.int .i64 y2] 41)).alloc (.cells #[.int .i64 x3,.int .i64 y3] 41)).alloc (.cells #[.int .i64 x4,.int .i64 y4] 41)
  simpa using h
 have B2:Blk w0 (w.heap.size+1) 41 #[.int .i64 x2,.int .i64 y2]:=by
  rw [hw0]
  have h:=((Blk.new ((w.alloc (.cells #[.int .i64 x1,.int .i64 y1] 41))) 41 #[.int .i64 x2,.int .i64 y2]).alloc (.cells #[.int .i64 x3,.int .i64 y3] 41)).alloc (.cells #[.int .i64 x4,.int .i64 y4] 41)
  simpa using h
 have B3:Blk w0 (w.heap.size+1+1) 41 #[.int .i64 x3,.int .i64 y3]:=by
  rw [hw0]
  have h:=(Blk.new (((w.alloc (.cells #[.int .i64 x1,.int .i64 y1] 41)).alloc (.cells #[.int .i64 x2,.int .i64 y2] 41))) 41 #[.int .i64 x3,.int .i64 y3]).alloc (.cells #[.int .i64 x4,.int .i64 y4] 41)
  simpa using h
 have B4:Blk w0 (w.heap.size+1+1+1) 41 #[.int .i64 x4,.int .i64 y4]:=by
  rw [hw0]
  have h:=Blk.new ((((w.alloc (.cells #[.int .i64 x1,.int .i64 y1] 41)).alloc (.cells #[.int .i64 x2,.int .i64 y2] 41)).alloc (.cells #[.int .i64 x3,.int .i64 y3] 41))) 41 #[.int .i64 x4,.int .i64 y4]
  simpa using h
 have HV:Hid (∀ wk,Calls Tryz.prog 41 #[.agg #[.int .i64 x1,.int .i64 y1],.agg #[.int .i64 x2,.int .i64 y2],.agg #[.int .i64 x3,.int .i64 y3],.agg #[.int .i64 x4,.int .i64 y4]] wk (GaveR (fun _=>True) N wk)):=hide fun wk=>rcval_raw _ _ _ _ _ _ _ _ _ N h1 h2 h3 h4 hN wk (fun _ _=>trivial)
 have HO:Hid (∀ wk,Calls Tryz.prog 40 #[.agg #[.int .i64 x1,.int .i64 y1],.agg #[.int .i64 x2,.int .i64 y2],.agg #[.int .i64 x3,.int .i64 y3]] wk fun e w'=>e=.returned (.int .i64 M.sign)∧Below wk.heap.size wk w'):=hide fun wk=>rsign_raw _ _ _ _ _ _ M h1 h2 h3 hM wk
 have h00:Held4P w0 (w.heap.size) (w.heap.size+1) (w.heap.size+1+1) (w.heap.size+1+1+1) x1 y1 x2 y2 x3 y3 x4 y4 w0:=⟨Below.refl _ _,B1.cell (i:=0) rfl,B1.cell (i:=1) rfl,B2.cell (i:=0) rfl,B2.cell (i:=1) rfl,B3.cell (i:=0) rfl,B3.cell (i:=1) rfl,B4.cell (i:=0) rfl,B4.cell (i:=1) rfl⟩
 have hd0:=h00.keep (bl_drew (Below.refl _ _))
 have HB0:=hide hb0
 clear h1 h2 h3 h4 hN hM hb0 B1 B2 B3 B4
 go_enter Tryz.func237,Tryz.ntmps237
 go_wp2_with fail
 rw [← hw0]
 have HW0:=hide hw0
 clear hw0
 go_region_held3 (fun w'=>Below w0.heap.size w0 w'∧w'.cell? ⟨w.heap.size,0,none⟩=some (.int .i64 x1)∧w'.cell? ⟨w.heap.size,1,none⟩=some (.int .i64 y1)∧w'.cell? ⟨w.heap.size+1,0,none⟩=some (.int .i64 x2)∧w'.cell? ⟨w.heap.size+1,1,none⟩=some (.int .i64 y2)∧w'.cell? ⟨w.heap.size+1+1,0,none⟩=some (.int .i64 x3)∧w'.cell? ⟨w.heap.size+1+1,1,none⟩=some (.int .i64 y3)∧w'.cell? ⟨w.heap.size+1+1+1,0,none⟩=some (.int .i64 x4)∧w'.cell? ⟨w.heap.size+1+1+1,1,none⟩=some (.int .i64 y4))
  (first | with_reducible exact hd0 | with_reducible exact h00 | with_reducible exact Held4P.keep (by assumption) (by assumption) | with_reducible exact hd0.keep (by assumption))
  (first
    | (go_at_call 41;((with_reducible refine (HV.out _).mono ?_);rintro e w4 ⟨A4,c4,rfl,hN4,hb4⟩;unfold numV;have hf:=fun wk=>run_sign N.sign (.slice A4 (digs N.natAbs).length c4) wk))
    | (go_at_call 40;((with_reducible refine (HO.out _).mono ?_);rintro e w5 ⟨rfl,hb5⟩)))
 all_goals
  go_wp2
  go_ret
  exact ⟨rfl,bl_step HB0.out (And.left (by assumption:Held4P w0 (w.heap.size) (w.heap.size+1) (w.heap.size+1+1) (w.heap.size+1+1+1) x1 y1 x2 y2 x3 y3 x4 y4 _))⟩
end
end Go.Proofs.YthnenedoblncjaaGreatDoor
