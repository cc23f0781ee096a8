/- RefVal -/
import Derived.Test.YtpnoofphfomjoaaGreatDoorPkM25
import Derived.Test.YtpnoofphfomjoaaGreatDoorPkM49
set_option maxRecDepth 1000000
set_option maxHeartbeats 8000000
namespace Go.Proofs.YtpnoofphfomjoaaGreatDoor
section
open Go.RowKit
theorem dl {n:Int} {k:Nat} (h:n.natAbs<65536 ^ k):(digs n.natAbs).length≤k:=digs_len h
theorem dl4 {x:Int} (h:J64 x):(digs x.natAbs).length≤4:=dl (by unfold J64 at h;omega)
theorem coord_bd {x y:Int} (hx:J64 x) (hy:J64 y):(x*y).natAbs≤85070591730234615865843651857942052864:=by
 rw [Int.natAbs_mul]
 exact Nat.le_trans (Nat.mul_le_mul (show x.natAbs≤9223372036854775808 by unfold J64 at hx;omega) (show y.natAbs≤9223372036854775808 by unfold J64 at hy;omega)) (by decide)
theorem product_any (P:Nat→Prop) (x y N:Int) (hx:J64 x) (hy:J64 y) (hN:x*y=N) (w:World) (hP:Up w P) :
 Calls Tryz.prog 215 #[.int .i64 x,.int .i64 y] w (GaveR P N w):=by
 obtain ⟨w0,hw0⟩:∃ w0,w0=w.alloc (.cells #[.int .i64 0,.slice none 0 0] 197):=⟨_,rfl⟩
 have hb0:Below w.heap.size w w0:=by rw [hw0];exact bA
 have B0:Blk w0 w.heap.size 197 #[.int .i64 0,.slice none 0 0]:=by rw [hw0];exact Blk.new _ _ _
 have hsz:w0.heap.size=w.heap.size+1:=by rw [hw0];simp
 have hU:Up w0 (fun k=>P k∧k≠w.heap.size):=hP.ne (Nat.le_refl _) (by omega)
 have H1:=hide (int_any _ x (by unfold J64 at hx;omega) w0 hU)
 have H2:Hid (∀ w1,Below w0.heap.size w0 w1→Calls Tryz.prog 196 #[.int .i64 y] w1 (GaveR (fun k=>P k∧k≠w.heap.size) y w1)):=hide fun w1 hb=>int_any _ y (by unfold J64 at hy;omega) w1 (hU.of hb.size)
 have H3:Hid (∀ w1 A c B d,Below w0.heap.size w0 w1→NumAt w1 (fun k=>P k∧k≠w.heap.size) x A c→NumAt w1 (fun k=>P k∧k≠w.heap.size) y B d→Calls Tryz.prog 168 #[numV x A c,numV y B d] w1 (GaveR (fun k=>P k∧k≠w.heap.size) N w1)):=hide fun w1 A c B d hb h1 h2=>by
  have h:=mul_any _ x y A B c d w1 h1 h2 (Nat.le_trans (dl4 hx) (by omega)) (Nat.le_trans (dl4 hy) (by omega)) (hU.of hb.size)
  rw [hN] at h
  exact h
 have HB0:=hide hb0;have HBB:=hide B0
 clear hx hy hN hP hU hb0 B0 hsz
 go_enter Tryz.func215,Tryz.ntmps215
 go_wp2_with fail
 rw [← hw0]
 clear hw0
 refine H1.out.mono ?_
 rintro e w1 ⟨A1,c1,rfl,hN1,hb1⟩
 go_wp2_with fail
 refine (H2.out _ hb1).mono ?_
 rintro e w2 ⟨A2,c2,rfl,hN2,hb2⟩
 go_wp2_with fail
 refine (H3.out _ _ _ _ _ (bl_step hb1 hb2) (hN1.step hb2) hN2).mono ?_
 rintro e w5 ⟨A5,c5,rfl,hN5,hb5⟩
 have hb55:=bl_step HB0.out (bl_step (bl_step hb1 hb2) hb5)
 have B5:=((HBB.out.step hb1).step hb2).step hb5
 have b0:=B5.cell (i:=0) rfl
 have b1:=B5.cell (i:=1) rfl
 have f0:=B5.frozen 0
 have f1:=B5.frozen 1
 unfold numV
 go_wp2
 refine bodyPost_ret (results_num rfl rfl ((B5.set 0 _).set 1 _)) rfl ?_
 exact gave_set hb55 (Nat.le_refl _) hN5
theorem minor_any (P:Nat→Prop) (x1 y1 x2 y2 N:Int) (h1:J64 x1) (h2:J64 y1) (h3:J64 x2) (h4:J64 y2) (hN:x1*y2 - y1*x2=N) (w:World) (hP:Up w P) :
 Calls Tryz.prog 194 #[.agg #[.int .i64 x1,.int .i64 y1],.agg #[.int .i64 x2,.int .i64 y2]] w (GaveR P N w):=by
 obtain ⟨w0,hw0⟩:∃ w0,w0=((w.alloc (.cells #[.int .i64 x1,.int .i64 y1] 69)).alloc (.cells #[.int .i64 x2,.int .i64 y2] 69)).alloc (.cells #[.int .i64 0,.slice none 0 0] 197):=⟨_,rfl⟩
 have hb0:Below w.heap.size w w0:=by rw [hw0];exact bl_alloc (bl_alloc (bA) _) _
 have B1:Blk w0 w.heap.size 69 #[.int .i64 x1,.int .i64 y1]:=by rw [hw0];exact ((Blk.new _ _ _).alloc _).alloc _
 have B2:Blk w0 (w.heap.size+1) 69 #[.int .i64 x2,.int .i64 y2]:=by rw [hw0];exact (Blk.new2 _ _ _ _).alloc _
 have B3:Blk w0 (w.heap.size+1+1) 197 #[.int .i64 0,.slice none 0 0]:=by
  rw [hw0]
  have h:=Blk.new ((w.alloc (.cells #[.int .i64 x1,.int .i64 y1] 69)).alloc (.cells #[.int .i64 x2,.int .i64 y2] 69)) 197 #[.int .i64 0,.slice none 0 0]
  simpa using h
 have hsz:w0.heap.size=w.heap.size+1+1+1:=by rw [hw0];simp
 have h00:HeldB w (w.heap.size+1+1+1) w.heap.size (w.heap.size+1) (w.heap.size+1+1) (.int .i64 x1) (.int .i64 y1) (.int .i64 x2) (.int .i64 y2) w0 :=
  HeldB.mk' hb0 (Nat.le_of_eq hsz.symm) ⟨_,_,B3⟩ (B1.cell (i:=0) rfl) (B1.cell (i:=1) rfl) (B2.cell (i:=0) rfl) (B2.cell (i:=1) rfl)
 obtain ⟨p,hp⟩:∃ p,p=x1*y2:=⟨_,rfl⟩
 obtain ⟨q,hq⟩:∃ q,q=y1*x2:=⟨_,rfl⟩
 have bp:=coord_bd h1 h4
 have bq:=coord_bd h2 h3
 rw [← hp] at bp hN
 rw [← hq] at bq hN
 have hU:∀ {wk:World},w.heap.size+1+1+1≤wk.heap.size→Up wk (fun k=>P k∧k≠w.heap.size+1+1):=fun hk=>hP.ne (by omega) (by omega)
 have H1:Hid (∀ wk,w.heap.size+1+1+1≤wk.heap.size→Calls Tryz.prog 215 #[.int .i64 x1,.int .i64 y2] wk (GaveR (fun k=>P k∧k≠w.heap.size+1+1) p wk)):=hide fun wk hk=>product_any _ x1 y2 p h1 h4 hp.symm wk (hU hk)
 have H2:Hid (∀ wk,w.heap.size+1+1+1≤wk.heap.size→Calls Tryz.prog 215 #[.int .i64 y1,.int .i64 x2] wk (GaveR (fun k=>P k∧k≠w.heap.size+1+1) q wk)):=hide fun wk hk=>product_any _ y1 x2 q h2 h3 hq.symm wk (hU hk)
 have H3:Hid (∀ wk A c B d,w.heap.size+1+1+1≤wk.heap.size→NumAt wk (fun k=>P k∧k≠w.heap.size+1+1) p A c→NumAt wk (fun k=>P k∧k≠w.heap.size+1+1) q B d →
  Calls Tryz.prog 171 #[.agg #[.int .i64 p.sign,.slice A (digs p.natAbs).length c],.agg #[.int .i64 q.sign,.slice B (digs q.natAbs).length d]] wk (GaveR (fun k=>P k∧k≠w.heap.size+1+1) N wk)):=hide fun wk A c B d hk ha hb=>by
  have h:=sub_any _ p q A B c d wk ha hb (Nat.le_trans (dl (k:=8) (by omega)) (by omega)) (Nat.le_trans (dl (k:=8) (by omega)) (by omega)) (hU hk)
  rw [hN] at h
  exact h
 have hd0:=h00.keep (bl_drew (Below.refl _ _))
 have HSZ:=hide hsz
 clear h1 h2 h3 h4 hN hP hU hb0 B1 B2 B3 hsz hp hq bp bq
 go_enter Tryz.func194,Tryz.ntmps194
 go_wp2_with fail
 rw [← hw0]
 have HW0:=hide hw0
 clear hw0
 go_region_held3 (fun w'=>(Below w.heap.size w w'∧(w.heap.size+1+1+1)≤w'.heap.size∧R2 w' (w.heap.size+1+1))∧w'.cell? ⟨w.heap.size,0,none⟩=some (.int .i64 x1)∧w'.cell? ⟨w.heap.size,1,none⟩=some (.int .i64 y1)∧w'.cell? ⟨w.heap.size+1,0,none⟩=some (.int .i64 x2)∧w'.cell? ⟨w.heap.size+1,1,none⟩=some (.int .i64 y2) ∧
  w'.cell? ⟨w.heap.size+1+1,0,none⟩=some (Cw w' ⟨w.heap.size+1+1,0,none⟩)∧w'.cell? ⟨w.heap.size+1+1,1,none⟩=some (Cw w' ⟨w.heap.size+1+1,1,none⟩)∧w'.frozen? ⟨w.heap.size+1+1,0,none⟩=false∧w'.frozen? ⟨w.heap.size+1+1,1,none⟩=false)
  (first | with_reducible exact hK6 | with_reducible exact hd0 | with_reducible exact h00 | with_reducible exact HeldB.keep (by assumption) (by assumption) | with_reducible exact hd0.keep (by assumption) | exact HeldB.set2 (by assumption) (by omega) (by omega) (by omega) _ _)
  (first
    | (go_at_call 215;((with_reducible refine (H1.out _ (by first | exact HeldB.big (by assumption))).mono ?_);rintro e w4 ⟨A4,c4,rfl,hN4,hb4⟩;unfold numV))
    | (go_at_call 215;((with_reducible refine (H2.out _ (by first | exact HeldB.big (by assumption))).mono ?_);rintro e w5 ⟨A5,c5,rfl,hN5,hb5⟩;unfold numV))
    | (go_at_call 171;((with_reducible refine (H3.out _ A4 c4 A5 c5 (by first | exact HeldB.big (by assumption)) (by first | exact hN4 | exact hN4.step hb5) (by first | exact hN5 | exact hN5.step hb4)).mono ?_);rintro e w6 ⟨A6,c6,rfl,hN6,hb6⟩;have hK6:=HeldB.keep (by assumption) hb6;unfold numV)))
 all_goals
  go_wp2
  exact bodyPost_ret (R2.run (HeldB.row hK6) rfl rfl) rfl (gave_set (HeldB.below hK6) (by omega) hN6)
end
section
open Go.RowKit
abbrev Held3B (w:World) (n0 g1 g2 g3 g:Nat) (v1 u1 v2 u2 v3 u3:Value) (w':World):Prop :=
 (Below w.heap.size w w'∧n0≤w'.heap.size∧R2 w' g)∧w'.cell? ⟨g1,0,none⟩=some v1∧w'.cell? ⟨g1,1,none⟩=some u1∧w'.cell? ⟨g2,0,none⟩=some v2∧w'.cell? ⟨g2,1,none⟩=some u2∧w'.cell? ⟨g3,0,none⟩=some v3∧w'.cell? ⟨g3,1,none⟩=some u3 ∧
 w'.cell? ⟨g,0,none⟩=some (Cw w' ⟨g,0,none⟩)∧w'.cell? ⟨g,1,none⟩=some (Cw w' ⟨g,1,none⟩)∧w'.frozen? ⟨g,0,none⟩=false∧w'.frozen? ⟨g,1,none⟩=false
section
variable {w wk w':World} {n0 g1 g2 g3 g:Nat} {v1 u1 v2 u2 v3 u3:Value}
theorem Held3B.mk' (hb:Below w.heap.size w w') (hn:n0≤w'.heap.size) (hr:R2 w' g) (h1:w'.cell? ⟨g1,0,none⟩=some v1) (k1:w'.cell? ⟨g1,1,none⟩=some u1) (h2:w'.cell? ⟨g2,0,none⟩=some v2) (k2:w'.cell? ⟨g2,1,none⟩=some u2) (h3:w'.cell? ⟨g3,0,none⟩=some v3) (k3:w'.cell? ⟨g3,1,none⟩=some u3):Held3B w n0 g1 g2 g3 g v1 u1 v2 u2 v3 u3 w':=by
 have hr':=hr
 obtain ⟨u,v,hB⟩:=hr'
 exact ⟨⟨hb,hn,hr⟩,h1,k1,h2,k2,h3,k3,Cw.of (hB.cell (i:=0) rfl),Cw.of (hB.cell (i:=1) rfl),hB.frozen 0,hB.frozen 1⟩
theorem Held3B.keep (h:Held3B w n0 g1 g2 g3 g v1 u1 v2 u2 v3 u3 wk) (hb:Below wk.heap.size wk w'):Held3B w n0 g1 g2 g3 g v1 u1 v2 u2 v3 u3 w':=by
 have on:∀ {b o:Nat} {v:Value},wk.cell? ⟨b,o,none⟩=some v→w'.cell? ⟨b,o,none⟩=some v:=fun h=>(hb.cell (p:=⟨_,_,none⟩) (cell_lt h)).trans h
 obtain ⟨⟨h0,hn,u,v,hB⟩,h1,k1,h2,k2,h3,k3,_⟩:=h
 exact Held3B.mk' (bl_step h0 hb) (Nat.le_trans hn hb.size) ⟨u,v,hB.step hb⟩ (on h1) (on k1) (on h2) (on k2) (on h3) (on k3)
theorem Held3B.set2 (h:Held3B w n0 g1 g2 g3 g v1 u1 v2 u2 v3 u3 wk) (hne:g1≠g∧g2≠g∧g3≠g) (hg:w.heap.size≤g) (x y:Value):Held3B w n0 g1 g2 g3 g v1 u1 v2 u2 v3 u3 ((wk.setCell ⟨g,0,none⟩ x).setCell ⟨g,1,none⟩ y):=by
 have on:∀ {b o:Nat} {v:Value},b≠g→wk.cell? ⟨b,o,none⟩=some v→((wk.setCell ⟨g,0,none⟩ x).setCell ⟨g,1,none⟩ y).cell? ⟨b,o,none⟩=some v:=fun hb h=>by
  rw [World.cell?_of_block (Below.heap_setCell _ _ _ _ (by exact hb)),World.cell?_of_block (Below.heap_setCell _ _ _ _ (by exact hb))]
  exact h
 obtain ⟨⟨h0,hn,u,v,hB⟩,h1,k1,h2,k2,h3,k3,_⟩:=h
 exact Held3B.mk' ((h0.setCell (by exact hg) _).setCell (by exact hg) _) (by simpa [World.size_setCell] using hn) ⟨_,_,(hB.set 0 x).set 1 y⟩ (on (by omega) h1) (on (by omega) k1) (on (by omega) h2) (on (by omega) k2) (on (by omega) h3) (on (by omega) k3)
theorem Held3B.below (h:Held3B w n0 g1 g2 g3 g v1 u1 v2 u2 v3 u3 wk):Below w.heap.size w wk:=h.1.1
theorem Held3B.big (h:Held3B w n0 g1 g2 g3 g v1 u1 v2 u2 v3 u3 wk):n0≤wk.heap.size:=h.1.2.1
theorem Held3B.row (h:Held3B w n0 g1 g2 g3 g v1 u1 v2 u2 v3 u3 wk):R2 wk g:=h.1.2.2
end
theorem minor_bd {x1 y1 x2 y2:Int} (h1:J64 x1) (h2:J64 y1) (h3:J64 x2) (h4:J64 y2):(x1*y2 - y1*x2).natAbs≤170141183460469231731687303715884105728:=by
 have a:=coord_bd h1 h4
 have b:=coord_bd h2 h3
 omega
theorem rval_raw (P:Nat→Prop) (x1 y1 x2 y2 x3 y3 N:Int) (h1:J64 x1∧J64 y1) (h2:J64 x2∧J64 y2) (h3:J64 x3∧J64 y3) (hN:((x2*y3 - y2*x3) - (x1*y3 - y1*x3))+(x1*y2 - y1*x2)=N) (w:World) (hP:Up w P) :
 Calls Tryz.prog 167 #[.agg #[.int .i64 x1,.int .i64 y1],.agg #[.int .i64 x2,.int .i64 y2],.agg #[.int .i64 x3,.int .i64 y3]] w (GaveR P N w):=by
 obtain ⟨w0,hw0⟩:∃ w0,w0=(((w.alloc (.cells #[.int .i64 x1,.int .i64 y1] 69)).alloc (.cells #[.int .i64 x2,.int .i64 y2] 69)).alloc (.cells #[.int .i64 x3,.int .i64 y3] 69)).alloc (.cells #[.int .i64 0,.slice none 0 0] 197):=⟨_,rfl⟩
 have hb0:Below w.heap.size w w0:=by rw [hw0];exact bl_alloc (bl_alloc (bl_alloc (bA) _) _) _
 have B1:Blk w0 (w.heap.size) 69 #[.int .i64 x1,.int .i64 y1]:=by rw [hw0];exact (((Blk.new _ _ _).alloc _).alloc _).alloc _
 have B2:Blk w0 (w.heap.size+1) 69 #[.int .i64 x2,.int .i64 y2]:=by rw [hw0];exact ((Blk.new2 _ _ _ _).alloc _).alloc _
 have B3:Blk w0 (w.heap.size+1+1) 69 #[.int .i64 x3,.int .i64 y3]:=by
  rw [hw0]
  have h:=(Blk.new ((w.alloc (.cells #[.int .i64 x1,.int .i64 y1] 69)).alloc (.cells #[.int .i64 x2,.int .i64 y2] 69)) 69 #[.int .i64 x3,.int .i64 y3]).alloc (.cells #[.int .i64 0,.slice none 0 0] 197)
  simpa using h
 have B4:Blk w0 (w.heap.size+1+1+1) 197 #[.int .i64 0,.slice none 0 0]:=by
  rw [hw0]
  have h:=Blk.new ((((w.alloc (.cells #[.int .i64 x1,.int .i64 y1] 69)).alloc (.cells #[.int .i64 x2,.int .i64 y2] 69)).alloc (.cells #[.int .i64 x3,.int .i64 y3] 69))) 197 #[.int .i64 0,.slice none 0 0]
  simpa using h
 have hsz:w0.heap.size=w.heap.size+1+1+1+1:=by rw [hw0];simp
 have h00:Held3B w (w.heap.size+1+1+1+1) (w.heap.size) (w.heap.size+1) (w.heap.size+1+1) (w.heap.size+1+1+1) (.int .i64 x1) (.int .i64 y1) (.int .i64 x2) (.int .i64 y2) (.int .i64 x3) (.int .i64 y3) w0 :=
  Held3B.mk' hb0 (Nat.le_of_eq hsz.symm) ⟨_,_,B4⟩ (B1.cell (i:=0) rfl) (B1.cell (i:=1) rfl) (B2.cell (i:=0) rfl) (B2.cell (i:=1) rfl) (B3.cell (i:=0) rfl) (B3.cell (i:=1) rfl)
 have hU:∀ {wk:World},w.heap.size+1+1+1+1≤wk.heap.size→Up wk (fun k=>P k∧k≠w.heap.size+1+1+1):=fun hk=>hP.ne (by omega) (by omega)
 have b1:=minor_bd h2.1 h2.2 h3.1 h3.2
 have b2:=minor_bd h1.1 h1.2 h3.1 h3.2
 have b3:=minor_bd h1.1 h1.2 h2.1 h2.2
 obtain ⟨m,hm⟩:∃ m,m=x2*y3 - y2*x3:=⟨_,rfl⟩
 obtain ⟨n,hn⟩:∃ n,n=x1*y3 - y1*x3:=⟨_,rfl⟩
 obtain ⟨p,hp⟩:∃ p,p=x1*y2 - y1*x2:=⟨_,rfl⟩
 rw [← hm] at b1 hN
 rw [← hn] at b2 hN
 rw [← hp] at b3 hN
 obtain ⟨q,hq⟩:∃ q,m - n=q:=⟨_,rfl⟩
 rw [hq] at hN
 have H1:Hid (∀ wk,w.heap.size+1+1+1+1≤wk.heap.size→Calls Tryz.prog 194 #[.agg #[.int .i64 x2,.int .i64 y2],.agg #[.int .i64 x3,.int .i64 y3]] wk (GaveR (fun k=>P k∧k≠w.heap.size+1+1+1) m wk)):=hide fun wk hk=>minor_any _ _ _ _ _ _ h2.1 h2.2 h3.1 h3.2 hm.symm wk (hU hk)
 have H2:Hid (∀ wk,w.heap.size+1+1+1+1≤wk.heap.size→Calls Tryz.prog 194 #[.agg #[.int .i64 x1,.int .i64 y1],.agg #[.int .i64 x3,.int .i64 y3]] wk (GaveR (fun k=>P k∧k≠w.heap.size+1+1+1) n wk)):=hide fun wk hk=>minor_any _ _ _ _ _ _ h1.1 h1.2 h3.1 h3.2 hn.symm wk (hU hk)
 have H4:Hid (∀ wk,w.heap.size+1+1+1+1≤wk.heap.size→Calls Tryz.prog 194 #[.agg #[.int .i64 x1,.int .i64 y1],.agg #[.int .i64 x2,.int .i64 y2]] wk (GaveR (fun k=>P k∧k≠w.heap.size+1+1+1) p wk)):=hide fun wk hk=>minor_any _ _ _ _ _ _ h1.1 h1.2 h2.1 h2.2 hp.symm wk (hU hk)
 have H3:Hid (∀ wk A c B d,w.heap.size+1+1+1+1≤wk.heap.size→NumAt wk (fun k=>P k∧k≠w.heap.size+1+1+1) m A c→NumAt wk (fun k=>P k∧k≠w.heap.size+1+1+1) n B d→Calls Tryz.prog 171 #[.agg #[.int .i64 m.sign,.slice A (digs m.natAbs).length c],.agg #[.int .i64 n.sign,.slice B (digs n.natAbs).length d]] wk (GaveR (fun k=>P k∧k≠w.heap.size+1+1+1) q wk)):=hide fun wk A c B d hk ha hb=>by
  have h:=sub_any _ m n A B c d wk ha hb (Nat.le_trans (dl (k:=8) (by omega)) (by omega)) (Nat.le_trans (dl (k:=8) (by omega)) (by omega)) (hU hk)
  rw [hq] at h
  exact h
 have H5:Hid (∀ wk A c B d,w.heap.size+1+1+1+1≤wk.heap.size→NumAt wk (fun k=>P k∧k≠w.heap.size+1+1+1) q A c→NumAt wk (fun k=>P k∧k≠w.heap.size+1+1+1) p B d→Calls Tryz.prog 170 #[.agg #[.int .i64 q.sign,.slice A (digs q.natAbs).length c],.agg #[.int .i64 p.sign,.slice B (digs p.natAbs).length d]] wk (GaveR (fun k=>P k∧k≠w.heap.size+1+1+1) N wk)):=hide fun wk A c B d hk ha hb=>by
  have h:=add_any _ q p A B c d wk ha hb (Nat.le_trans (dl (k:=9) (by omega)) (by omega)) (Nat.le_trans (dl (k:=8) (by omega)) (by omega)) (hU hk)
  rw [hN] at h
  exact h
 have hd0:=h00.keep (bl_drew (Below.refl _ _))
 have HSZ:=hide hsz
 clear h1 h2 h3 hN hP hU hb0 B1 B2 B3 B4 hsz hm hn hp hq b1 b2 b3
 go_enter Tryz.func167,Tryz.ntmps167
 go_wp2_with fail
 rw [← hw0]
 have HW0:=hide hw0
 clear hw0
 go_region_held3 (fun w'=>(Below w.heap.size w w'∧(w.heap.size+1+1+1+1)≤w'.heap.size∧R2 w' (w.heap.size+1+1+1))∧w'.cell? ⟨w.heap.size,0,none⟩=some (.int .i64 x1)∧w'.cell? ⟨w.heap.size,1,none⟩=some (.int .i64 y1)∧w'.cell? ⟨w.heap.size+1,0,none⟩=some (.int .i64 x2)∧w'.cell? ⟨w.heap.size+1,1,none⟩=some (.int .i64 y2)∧w'.cell? ⟨w.heap.size+1+1,0,none⟩=some (.int .i64 x3)∧w'.cell? ⟨w.heap.size+1+1,1,none⟩=some (.int .i64 y3) ∧
  w'.cell? ⟨w.heap.size+1+1+1,0,none⟩=some (Cw w' ⟨w.heap.size+1+1+1,0,none⟩)∧w'.cell? ⟨w.heap.size+1+1+1,1,none⟩=some (Cw w' ⟨w.heap.size+1+1+1,1,none⟩)∧w'.frozen? ⟨w.heap.size+1+1+1,0,none⟩=false∧w'.frozen? ⟨w.heap.size+1+1+1,1,none⟩=false)
  (first | with_reducible exact hK8 | with_reducible exact hd0 | with_reducible exact h00 | with_reducible exact Held3B.keep (by assumption) (by assumption) | with_reducible exact hd0.keep (by assumption) | exact Held3B.set2 (by assumption) (by omega) (by omega) _ _)
  (first
    | (go_at_call 194;((with_reducible refine (H1.out _ (by first | exact Held3B.big (by assumption))).mono ?_);rintro e w4 ⟨A4,c4,rfl,hN4,hb4⟩;unfold numV))
    | (go_at_call 194;((with_reducible refine (H2.out _ (by first | exact Held3B.big (by assumption))).mono ?_);rintro e w5 ⟨A5,c5,rfl,hN5,hb5⟩;unfold numV))
    | (go_at_call 194;((with_reducible refine (H4.out _ (by first | exact Held3B.big (by assumption))).mono ?_);rintro e w7 ⟨A7,c7,rfl,hN7,hb7⟩;unfold numV))
    | (go_at_call 171;((with_reducible refine (H3.out _ A4 c4 A5 c5 (by first | exact Held3B.big (by assumption)) (by first | exact hN4 | exact hN4.step hb5 | exact hN4.step hb7 | exact (hN4.step hb5).step hb7 | exact (hN4.step hb7).step hb5) (by first | exact hN5 | exact hN5.step hb4 | exact hN5.step hb7 | exact (hN5.step hb4).step hb7 | exact (hN5.step hb7).step hb4)).mono ?_);rintro e w6 ⟨A6,c6,rfl,hN6,hb6⟩;unfold numV))
    | (go_at_call 170;((with_reducible refine (H5.out _ A6 c6 A7 c7 (by first | exact Held3B.big (by assumption)) (by first | exact hN6 | exact hN6.step hb7) (by first | exact hN7 | exact hN7.step hb4 | exact hN7.step hb5 | exact hN7.step hb6 | exact (hN7.step hb4).step hb5 | exact (hN7.step hb4).step hb6 | exact (hN7.step hb5).step hb4 | exact (hN7.step hb5).step hb6 | exact (hN7.step hb6).step hb4 | exact (hN7.step hb6).step hb5 | exact ((hN7.step hb4).step hb5).step hb6 | exact ((hN7.step hb4).step hb6).step hb5 | exact ((hN7.step hb5).step hb4).step hb6 | exact ((hN7.step hb5).step hb6).step hb4 | exact ((hN7.step hb6).step hb4).step hb5 | exact ((hN7.step hb6).step hb5).step hb4)).mono ?_);rintro e w8 ⟨A8,c8,rfl,hN8,hb8⟩;have hK8:=Held3B.keep (by assumption) hb8;unfold numV)))
 all_goals
  go_wp2
  exact bodyPost_ret (R2.run (Held3B.row hK8) rfl rfl) rfl (gave_set (Held3B.below hK8) (by omega) hN8)
theorem rorient (a b c:Pt):((b.1*c.2 - b.2*c.1) - (a.1*c.2 - a.2*c.1))+(a.1*b.2 - a.2*b.1)=orientD a b c:=by
 unfold orientD crossD
 rw [Int.sub_mul,Int.mul_sub,Int.mul_sub,Int.sub_mul,Int.mul_sub,Int.mul_sub,Int.mul_comm a.2 a.1,Int.mul_comm b.1 a.2,Int.mul_comm a.2 b.1,Int.mul_comm b.2 a.1]
 omega
theorem run_sign (n:Int) (v:Value) (w:World):(Instr.field 197 (.agg #[.int .i64 n,v]) 0).run Tryz.prog w=.ok (.int .i64 n) w:=by
 simp [Instr.field,go_sem]
 rfl
theorem rsign_raw (x1 y1 x2 y2 x3 y3 N:Int) (h1:J64 x1∧J64 y1) (h2:J64 x2∧J64 y2) (h3:J64 x3∧J64 y3) (hN:((x2*y3 - y2*x3) - (x1*y3 - y1*x3))+(x1*y2 - y1*x2)=N) (w:World) :
 Calls Tryz.prog 138 #[.agg #[.int .i64 x1,.int .i64 y1],.agg #[.int .i64 x2,.int .i64 y2],.agg #[.int .i64 x3,.int .i64 y3]] w fun e w'=>e=.returned (.int .i64 N.sign)∧Below w.heap.size w w':=by
 have H:=hide (rval_raw (fun _=>True) x1 y1 x2 y2 x3 y3 N h1 h2 h3 hN)
 clear h1 h2 h3 hN
 go_enter Tryz.func138,Tryz.ntmps138
 go_wp2_with fail
 refine (H.out _ (fun _ _=>trivial)).mono ?_
 rintro e w1 ⟨A1,c1,rfl,hN1,hb1⟩
 unfold numV
 have hf:=run_sign N.sign (.slice A1 (digs N.natAbs).length c1) w1
 go_wp2
 go_ret
 exact ⟨rfl,bl_step (bl_alloc (bl_alloc (bA) _) _) hb1⟩
theorem rsign_any (a b c:Pt) (ha:PJ a) (hb:PJ b) (hc:PJ c) (w:World) :
 Calls Tryz.prog 138 #[ptV a,ptV b,ptV c] w fun e w'=>e=.returned (.int .i64 (orientD a b c).sign)∧Below w.heap.size w w' :=
 rsign_raw _ _ _ _ _ _ _ ha hb hc (rorient a b c) w
end
end Go.Proofs.YtpnoofphfomjoaaGreatDoor
