/- RefNum7 RefPower -/
import Derived.Deep.RegionHeld3
import Derived.Test.YthnenedoblncjaaGreatDoorPkP06
set_option maxRecDepth 1000000
set_option maxHeartbeats 8000000
namespace Go.Proofs.YthnenedoblncjaaGreatDoor
section
open Go.RowKit
def Cw (w:World) (a:Addr):Value:=(w.cell? a).getD undef
theorem Cw.of {w:World} {a:Addr} {v:Value} (h:w.cell? a=some v):w.cell? a=some (Cw w a):=by unfold Cw;rw [h];rfl
def R2 (w:World) (g:Nat):Prop:=∃ u v,Blk w g 81 #[u,v]
abbrev HeldB (w:World) (n0 g1 g2 g:Nat) (v0 v1 u0 u1:Value) (w':World):Prop :=
 (Below w.heap.size w w'∧n0≤w'.heap.size∧R2 w' g)∧w'.cell? ⟨g1,0,none⟩=some v0∧w'.cell? ⟨g1,1,none⟩=some v1∧w'.cell? ⟨g2,0,none⟩=some u0∧w'.cell? ⟨g2,1,none⟩=some u1 ∧
 w'.cell? ⟨g,0,none⟩=some (Cw w' ⟨g,0,none⟩)∧w'.cell? ⟨g,1,none⟩=some (Cw w' ⟨g,1,none⟩)∧w'.frozen? ⟨g,0,none⟩=false∧w'.frozen? ⟨g,1,none⟩=false
section
variable {w wk w':World} {n0 g1 g2 g:Nat} {v0 v1 u0 u1:Value}
theorem HeldB.mk' (hb:Below w.heap.size w w') (hn:n0≤w'.heap.size) (hr:R2 w' g) (h1:w'.cell? ⟨g1,0,none⟩=some v0) (h2:w'.cell? ⟨g1,1,none⟩=some v1) (h3:w'.cell? ⟨g2,0,none⟩=some u0) (h4:w'.cell? ⟨g2,1,none⟩=some u1) :
 HeldB w n0 g1 g2 g v0 v1 u0 u1 w':=by
 have hr':=hr
 obtain ⟨u,v,hB⟩:=hr'
 exact ⟨⟨hb,hn,hr⟩,h1,h2,h3,h4,Cw.of (hB.cell (i:=0) rfl),Cw.of (hB.cell (i:=1) rfl),hB.frozen 0,hB.frozen 1⟩
theorem HeldB.keep (h:HeldB w n0 g1 g2 g v0 v1 u0 u1 wk) (hb:Below wk.heap.size wk w'):HeldB w n0 g1 g2 g v0 v1 u0 u1 w':=by
 have on:∀ {b o:Nat} {v:Value},wk.cell? ⟨b,o,none⟩=some v→w'.cell? ⟨b,o,none⟩=some v:=fun h=>(hb.cell (p:=⟨_,_,none⟩) (cell_lt h)).trans h
 obtain ⟨⟨h0,hn,u,v,hB⟩,h1,h2,h3,h4,_⟩:=h
 exact HeldB.mk' (bl_step h0 hb) (Nat.le_trans hn hb.size) ⟨u,v,hB.step hb⟩ (on h1) (on h2) (on h3) (on h4)
theorem HeldB.set2 (h:HeldB w n0 g1 g2 g v0 v1 u0 u1 wk) (h1:g1≠g) (h2:g2≠g) (hg:w.heap.size≤g) (x y:Value):HeldB w n0 g1 g2 g v0 v1 u0 u1 ((wk.setCell ⟨g,0,none⟩ x).setCell ⟨g,1,none⟩ y):=by
 have on:∀ {b o:Nat} {v:Value},b≠g→wk.cell? ⟨b,o,none⟩=some v→((wk.setCell ⟨g,0,none⟩ x).setCell ⟨g,1,none⟩ y).cell? ⟨b,o,none⟩=some v:=fun hb h=>by
  rw [World.cell?_of_block (Below.heap_setCell _ _ _ _ (by exact hb)),World.cell?_of_block (Below.heap_setCell _ _ _ _ (by exact hb))]
  exact h
 obtain ⟨⟨h0,hn,u,v,hB⟩,c1,c2,c3,c4,_⟩:=h
 exact HeldB.mk' ((h0.setCell (by exact hg) _).setCell (by exact hg) _) (by simpa [World.size_setCell] using hn) ⟨_,_,(hB.set 0 x).set 1 y⟩ (on h1 c1) (on h1 c2) (on h2 c3) (on h2 c4)
theorem HeldB.big (h:HeldB w n0 g1 g2 g v0 v1 u0 u1 wk):n0≤wk.heap.size:=h.1.2.1
theorem HeldB.row (h:HeldB w n0 g1 g2 g v0 v1 u0 u1 wk):R2 wk g:=h.1.2.2
theorem R2.run {fn:Func} {tmps:Array Value} {w5:World} {k g:Nat} {v0 v1:Value} (h:R2 w5 g) (hr:fn.results=#[.cell k 81]) (hp:tmps.getD k undef=.pointer (some ⟨g,0,none⟩)) :
 (results fn tmps).run Tryz.prog ((w5.setCell ⟨g,0,none⟩ v0).setCell ⟨g,1,none⟩ v1)=.ok (.agg #[v0,v1]) ((w5.setCell ⟨g,0,none⟩ v0).setCell ⟨g,1,none⟩ v1):=by
 obtain ⟨u,v,hB⟩:=h
 exact results_num hr hp ((hB.set 0 v0).set 1 v1)
theorem HeldB.below (h:HeldB w n0 g1 g2 g v0 v1 u0 u1 wk):Below w.heap.size w wk:=h.1.1
end
theorem add_zero (s2:Int) (m n:Nat) (A B:Option Addr) (c d:Nat) (w:World) :
 Calls Tryz.prog 73 #[.agg #[.int .i64 0,.slice A m c],.agg #[.int .i64 s2,.slice B n d]] w fun e w'=>e=.returned (.agg #[.int .i64 s2,.slice B n d])∧Below w.heap.size w w':=by
 go_enter Tryz.func73,Tryz.ntmps73
 go_wp2
 have h:=Blk.new ((w.alloc (.cells #[.int .i64 0,.slice A m c] 81)).alloc (.cells #[.int .i64 s2,.slice B n d] 81)) 81 #[.int .i64 s2,.slice B n d]
 refine bodyPost_ret (results_num rfl rfl (by simpa using h)) rfl ?_
 exact ⟨rfl,bl_alloc (bl_alloc (bA) _) _⟩
theorem add_zero' (s1:Int) (h0:s1≠0) (m n:Nat) (A B:Option Addr) (c d:Nat) (w:World) :
 Calls Tryz.prog 73 #[.agg #[.int .i64 s1,.slice A m c],.agg #[.int .i64 0,.slice B n d]] w fun e w'=>e=.returned (.agg #[.int .i64 s1,.slice A m c])∧Below w.heap.size w w':=by
 go_enter Tryz.func73,Tryz.ntmps73
 go_wp2
 have h:=Blk.new ((w.alloc (.cells #[.int .i64 s1,.slice A m c] 81)).alloc (.cells #[.int .i64 0,.slice B n d] 81)) 81 #[.int .i64 s1,.slice A m c]
 refine bodyPost_ret (results_num rfl rfl (by simpa using h)) rfl ?_
 exact ⟨rfl,bl_alloc (bl_alloc (bA) _) _⟩
theorem add_same (P:Nat→Prop) (s:Int) (l1 l2:List Nat) (la lb:Nat) (A B:Option Addr) (c d:Nat) (w:World) (hA:Sl w w.heap.size A (dCs l1)) (hB:Sl w w.heap.size B (dCs l2)) (ok1:dOk l1) (ok2:dOk l2)
 (hla:l1.length=la) (hlb:l2.length=lb) (hm:la≤1000) (hn:lb≤1000) (hP:Up w P) (h0:s=1∨s=-1) (N:Int) (hN:s*(dval l1+dval l2:Nat)=N) :
 Calls Tryz.prog 73 #[.agg #[.int .i64 s,.slice A la c],.agg #[.int .i64 s,.slice B lb d]] w (GaveR P N w):=by
 obtain ⟨w0,hw0⟩:∃ w0,w0=((w.alloc (.cells #[.int .i64 s,.slice A la c] 81)).alloc (.cells #[.int .i64 s,.slice B lb d] 81)).alloc (.cells #[.int .i64 0,.slice none 0 0] 81):=⟨_,rfl⟩
 have hb0:Below w.heap.size w w0:=by rw [hw0];exact bl_alloc (bl_alloc (bA) _) _
 have B1:Blk w0 w.heap.size 81 #[.int .i64 s,.slice A la c]:=by rw [hw0];exact ((Blk.new _ _ _).alloc _).alloc _
 have B2:Blk w0 (w.heap.size+1) 81 #[.int .i64 s,.slice B lb d]:=by rw [hw0];exact (Blk.new2 _ _ _ _).alloc _
 have B3:Blk w0 (w.heap.size+1+1) 81 #[.int .i64 0,.slice none 0 0]:=by
  rw [hw0]
  have h:=Blk.new ((w.alloc (.cells #[.int .i64 s,.slice A la c] 81)).alloc (.cells #[.int .i64 s,.slice B lb d] 81)) 81 #[.int .i64 0,.slice none 0 0]
  simpa using h
 have hsz:w0.heap.size=w.heap.size+1+1+1:=by rw [hw0];simp
 have h00:HeldB w (w.heap.size+1+1+1) w.heap.size (w.heap.size+1) (w.heap.size+1+1) (.int .i64 s) (.slice A la c) (.int .i64 s) (.slice B lb d) w0 :=
  HeldB.mk' hb0 (Nat.le_of_eq hsz.symm) ⟨_,_,B3⟩ (B1.cell (i:=0) rfl) (B1.cell (i:=1) rfl) (B2.cell (i:=0) rfl) (B2.cell (i:=1) rfl)
 have HD:Hid (∀ wk,Below w.heap.size w wk→Calls Tryz.prog 118 #[.slice A la c,.slice B lb d] wk fun e w'=>∃ o,GaveD o wk e w'∧dOk o∧dval o=dval l1+dval l2):=hide fun wk hb=>by
  have h:=addD_any l1 l2 A B c d wk ((hA.below hb).more hb.size) ((hB.below hb).more hb.size) (by omega) (by omega) ok1 ok2
  rw [hla,hlb] at h
  exact h.mono fun e w' ⟨o,h1,h2,h3,_⟩=>⟨o,h1,h2,h3⟩
 have HM:Hid (∀ (wa wk:World) (o:List Nat) (A':Option Addr) (c':Nat),SlN wk (fun k=>wa.heap.size≤k) A' (dCs o)→w.heap.size+1+1+1≤wa.heap.size→dOk o→dval o=dval l1+dval l2→o.length≤c'→c'≤maxLen →
  Calls Tryz.prog 104 #[.int .i64 s,.slice A' o.length c'] wk (GaveR (fun k=>P k∧k≠w.heap.size+1+1) N wk)):=hide fun wa wk o A' c' hsl hwa ho hv hc' hcm'=>by
  have h:=make16_any (fun k=>P k∧k≠w.heap.size+1+1) s o A' c' wk (hsl.mono fun k hk=>⟨hP k (by omega),by omega⟩) ho hc' hcm' (fun _=>h0)
  rw [hv,hN] at h
  exact h
 have h0':s≠0:=by omega
 have hd0:=h00.keep (bl_drew (Below.refl _ _))
 have r0:=h00.2.1;have r1:=h00.2.2.2.1
 have HSZ:=hide hsz
 clear hA hB ok1 ok2 hla hlb hP hN hb0 B1 B2 B3 hsz h0
 go_enter Tryz.func73,Tryz.ntmps73
 go_wp2_with fail
 rw [← hw0]
 have HW0:=hide hw0
 clear hw0
 go_region_held3 (fun w'=>(Below w.heap.size w w'∧(w.heap.size+1+1+1)≤w'.heap.size∧R2 w' (w.heap.size+1+1))∧w'.cell? ⟨w.heap.size,0,none⟩=some (.int .i64 s)∧w'.cell? ⟨w.heap.size,1,none⟩=some (.slice A la c)∧w'.cell? ⟨w.heap.size+1,0,none⟩=some (.int .i64 s)∧w'.cell? ⟨w.heap.size+1,1,none⟩=some (.slice B lb d) ∧
  w'.cell? ⟨w.heap.size+1+1,0,none⟩=some (Cw w' ⟨w.heap.size+1+1,0,none⟩)∧w'.cell? ⟨w.heap.size+1+1,1,none⟩=some (Cw w' ⟨w.heap.size+1+1,1,none⟩)∧w'.frozen? ⟨w.heap.size+1+1,0,none⟩=false∧w'.frozen? ⟨w.heap.size+1+1,1,none⟩=false)
  (first | with_reducible exact hK5 | with_reducible exact hd0 | with_reducible exact h00 | with_reducible exact HeldB.keep (by assumption) (by assumption) | with_reducible exact hd0.keep (by assumption) | exact HeldB.set2 (by assumption) (by omega) (by omega) (by omega) _ _)
  (first
    | (go_at_call 118;((with_reducible refine (HD.out _ (by first | exact HeldB.below (by assumption))).mono ?_);rintro e w4 ⟨o,⟨A4,c4,rfl,hl4,hm4,hs4,hb4⟩,ho4,hv4⟩))
    | (go_at_call 104;((with_reducible refine (HM.out _ _ o A4 c4 hs4 (by first | exact HeldB.big (by assumption)) ho4 hv4 hl4 hm4).mono ?_);rintro e w5 ⟨A5,c5,rfl,hN5,hb5⟩;have hK5:=HeldB.keep (by assumption) hb5;unfold numV)))
 all_goals
  go_wp2
  exact bodyPost_ret (R2.run (HeldB.row hK5) rfl rfl) rfl (gave_set (HeldB.below hK5) (by omega) hN5)
theorem add_ge (P:Nat→Prop) (s1 s2:Int) (m n:Nat) (la lb:Nat) (A B:Option Addr) (c d:Nat) (w:World) (hA:Sl w w.heap.size A (dCs (digs m))) (hB:Sl w w.heap.size B (dCs (digs n)))
 (hla:(digs m).length=la) (hlb:(digs n).length=lb) (hm:la≤1000) (hP:Up w P) (hs:s1≠s2) (h1:s1=1∨s1=-1) (h2:s2=1∨s2=-1) (hmn:n≤m) (N:Int) (hN:s1*(m - n:Nat)=N) :
 Calls Tryz.prog 73 #[.agg #[.int .i64 s1,.slice A la c],.agg #[.int .i64 s2,.slice B lb d]] w (GaveR P N w):=by
 obtain ⟨w0,hw0⟩:∃ w0,w0=((w.alloc (.cells #[.int .i64 s1,.slice A la c] 81)).alloc (.cells #[.int .i64 s2,.slice B lb d] 81)).alloc (.cells #[.int .i64 0,.slice none 0 0] 81):=⟨_,rfl⟩
 have hb0:Below w.heap.size w w0:=by rw [hw0];exact bl_alloc (bl_alloc (bA) _) _
 have B1:Blk w0 w.heap.size 81 #[.int .i64 s1,.slice A la c]:=by rw [hw0];exact ((Blk.new _ _ _).alloc _).alloc _
 have B2:Blk w0 (w.heap.size+1) 81 #[.int .i64 s2,.slice B lb d]:=by rw [hw0];exact (Blk.new2 _ _ _ _).alloc _
 have B3:Blk w0 (w.heap.size+1+1) 81 #[.int .i64 0,.slice none 0 0]:=by
  rw [hw0]
  have h:=Blk.new ((w.alloc (.cells #[.int .i64 s1,.slice A la c] 81)).alloc (.cells #[.int .i64 s2,.slice B lb d] 81)) 81 #[.int .i64 0,.slice none 0 0]
  simpa using h
 have hsz:w0.heap.size=w.heap.size+1+1+1:=by rw [hw0];simp
 have h00:HeldB w (w.heap.size+1+1+1) w.heap.size (w.heap.size+1) (w.heap.size+1+1) (.int .i64 s1) (.slice A la c) (.int .i64 s2) (.slice B lb d) w0 :=
  HeldB.mk' hb0 (Nat.le_of_eq hsz.symm) ⟨_,_,B3⟩ (B1.cell (i:=0) rfl) (B1.cell (i:=1) rfl) (B2.cell (i:=0) rfl) (B2.cell (i:=1) rfl)
 have hlen:(digs n).length≤(digs m).length:=digs_len (Nat.lt_of_le_of_lt (by omega) (digs_lt m))
 have HC:Hid (∀ wk,Below w.heap.size w wk→Calls Tryz.prog 119 #[.slice A la c,.slice B lb d] wk fun e w'=>e=.returned (.int .i64 (cmpN m n))∧Below wk.heap.size wk w'):=hide fun wk hb=>by
  have h:=compare_any m n A B c d wk ((hA.below hb).more hb.size) ((hB.below hb).more hb.size) (by omega)
  rw [hla,hlb] at h
  exact h
 have HD:Hid (∀ wk,Below w.heap.size w wk→Calls Tryz.prog 120 #[.slice A la c,.slice B lb d] wk fun e w'=>∃ o,GaveD o wk e w'∧dOk o∧dval o=m - n):=hide fun wk hb=>by
  have h:=subD_any (digs m) (digs n) A B c d wk ((hA.below hb).more hb.size) ((hB.below hb).more hb.size) (by omega) hlen (digs_ok _) (digs_ok _) (by rw [dval_digs,dval_digs];omega)
  rw [hla,hlb,dval_digs,dval_digs] at h
  exact h.mono fun e w' ⟨o,h1,h2,h3,_⟩=>⟨o,h1,h2,h3⟩
 have HM:Hid (∀ (wa wk:World) (o:List Nat) (A':Option Addr) (c':Nat),SlN wk (fun k=>wa.heap.size≤k) A' (dCs o)→w.heap.size+1+1+1≤wa.heap.size→dOk o→dval o=m - n→o.length≤c'→c'≤maxLen →
  Calls Tryz.prog 104 #[.int .i64 s1,.slice A' o.length c'] wk (GaveR (fun k=>P k∧k≠w.heap.size+1+1) N wk)):=hide fun wa wk o A' c' hsl hwa ho hv hc' hcm'=>by
  have h:=make16_any (fun k=>P k∧k≠w.heap.size+1+1) s1 o A' c' wk (hsl.mono fun k hk=>⟨hP k (by omega),by omega⟩) ho hc' hcm' (fun _=>h1)
  rw [hv,hN] at h
  exact h
 have hq:0≤cmpN m n:=by rw [cmpN_ge];exact hmn
 obtain ⟨q,hqq⟩:∃ q,q=cmpN m n:=⟨_,rfl⟩
 rw [← hqq] at hq HC
 have h0':s1≠0:=by omega
 have h1':s2≠0:=by omega
 have r0:=h00.2.1;have r1:=h00.2.2.2.1;have r2:=h00.2.2.1;have r3:=h00.2.2.2.2.1
 have HSZ:=hide hsz;have H0B:=hide hb0
 clear hA hB hla hlb hP hN hb0 B1 B2 B3 hsz h1 h2 hmn hqq hlen
 go_enter Tryz.func73,Tryz.ntmps73
 go_wp2_with fail
 rw [← hw0]
 have HW0:=hide hw0
 clear hw0
 refine (HC.out _ H0B.out).mono ?_
 rintro e w1 ⟨rfl,hb1⟩
 have h01:=h00.keep hb1
 have hd0:=h01.keep (bl_drew (Below.refl _ _))
 clear r0 r1 r2 r3
 have r0:=h01.2.1;have r1:=h01.2.2.2.1
 go_wp2_with fail
 go_region_held3 (fun w'=>(Below w.heap.size w w'∧(w.heap.size+1+1+1)≤w'.heap.size∧R2 w' (w.heap.size+1+1))∧w'.cell? ⟨w.heap.size,0,none⟩=some (.int .i64 s1)∧w'.cell? ⟨w.heap.size,1,none⟩=some (.slice A la c)∧w'.cell? ⟨w.heap.size+1,0,none⟩=some (.int .i64 s2)∧w'.cell? ⟨w.heap.size+1,1,none⟩=some (.slice B lb d) ∧
  w'.cell? ⟨w.heap.size+1+1,0,none⟩=some (Cw w' ⟨w.heap.size+1+1,0,none⟩)∧w'.cell? ⟨w.heap.size+1+1,1,none⟩=some (Cw w' ⟨w.heap.size+1+1,1,none⟩)∧w'.frozen? ⟨w.heap.size+1+1,0,none⟩=false∧w'.frozen? ⟨w.heap.size+1+1,1,none⟩=false)
  (first | with_reducible exact hK5 | with_reducible exact hd0 | with_reducible exact h01 | with_reducible exact HeldB.keep (by assumption) (by assumption) | with_reducible exact hd0.keep (by assumption) | exact HeldB.set2 (by assumption) (by omega) (by omega) (by omega) _ _)
  (first
    | (go_at_call 120;((with_reducible refine (HD.out _ (by first | exact HeldB.below (by assumption))).mono ?_);rintro e w4 ⟨o,⟨A4,c4,rfl,hl4,hm4,hs4,hb4⟩,ho4,hv4⟩))
    | (go_at_call 104;((with_reducible refine (HM.out _ _ o A4 c4 hs4 (by first | exact HeldB.big (by assumption)) ho4 hv4 hl4 hm4).mono ?_);rintro e w5 ⟨A5,c5,rfl,hN5,hb5⟩;have hK5:=HeldB.keep (by assumption) hb5;unfold numV)))
 all_goals
  go_wp2
  exact bodyPost_ret (R2.run (HeldB.row hK5) rfl rfl) rfl (gave_set (HeldB.below hK5) (by omega) hN5)
theorem add_lt (P:Nat→Prop) (s1 s2:Int) (m n:Nat) (la lb:Nat) (A B:Option Addr) (c d:Nat) (w:World) (hA:Sl w w.heap.size A (dCs (digs m))) (hB:Sl w w.heap.size B (dCs (digs n)))
 (hla:(digs m).length=la) (hlb:(digs n).length=lb) (hm:la≤1000) (hn:lb≤1000) (hP:Up w P) (hs:s1≠s2) (h1:s1=1∨s1=-1) (h2:s2=1∨s2=-1) (hmn:m<n) (N:Int) (hN:s2*(n - m:Nat)=N) :
 Calls Tryz.prog 73 #[.agg #[.int .i64 s1,.slice A la c],.agg #[.int .i64 s2,.slice B lb d]] w (GaveR P N w):=by
 obtain ⟨w0,hw0⟩:∃ w0,w0=((w.alloc (.cells #[.int .i64 s1,.slice A la c] 81)).alloc (.cells #[.int .i64 s2,.slice B lb d] 81)).alloc (.cells #[.int .i64 0,.slice none 0 0] 81):=⟨_,rfl⟩
 have hb0:Below w.heap.size w w0:=by rw [hw0];exact bl_alloc (bl_alloc (bA) _) _
 have B1:Blk w0 w.heap.size 81 #[.int .i64 s1,.slice A la c]:=by rw [hw0];exact ((Blk.new _ _ _).alloc _).alloc _
 have B2:Blk w0 (w.heap.size+1) 81 #[.int .i64 s2,.slice B lb d]:=by rw [hw0];exact (Blk.new2 _ _ _ _).alloc _
 have B3:Blk w0 (w.heap.size+1+1) 81 #[.int .i64 0,.slice none 0 0]:=by
  rw [hw0]
  have h:=Blk.new ((w.alloc (.cells #[.int .i64 s1,.slice A la c] 81)).alloc (.cells #[.int .i64 s2,.slice B lb d] 81)) 81 #[.int .i64 0,.slice none 0 0]
  simpa using h
 have hsz:w0.heap.size=w.heap.size+1+1+1:=by rw [hw0];simp
 have h00:HeldB w (w.heap.size+1+1+1) w.heap.size (w.heap.size+1) (w.heap.size+1+1) (.int .i64 s1) (.slice A la c) (.int .i64 s2) (.slice B lb d) w0 :=
  HeldB.mk' hb0 (Nat.le_of_eq hsz.symm) ⟨_,_,B3⟩ (B1.cell (i:=0) rfl) (B1.cell (i:=1) rfl) (B2.cell (i:=0) rfl) (B2.cell (i:=1) rfl)
 have hlen:(digs m).length≤(digs n).length:=digs_len (Nat.lt_of_le_of_lt (by omega) (digs_lt n))
 have HC:Hid (∀ wk,Below w.heap.size w wk→Calls Tryz.prog 119 #[.slice A la c,.slice B lb d] wk fun e w'=>e=.returned (.int .i64 (cmpN m n))∧Below wk.heap.size wk w'):=hide fun wk hb=>by
  have h:=compare_any m n A B c d wk ((hA.below hb).more hb.size) ((hB.below hb).more hb.size) (by omega)
  rw [hla,hlb] at h
  exact h
 have HD:Hid (∀ wk,Below w.heap.size w wk→Calls Tryz.prog 120 #[.slice B lb d,.slice A la c] wk fun e w'=>∃ o,GaveD o wk e w'∧dOk o∧dval o=n - m):=hide fun wk hb=>by
  have h:=subD_any (digs n) (digs m) B A d c wk ((hB.below hb).more hb.size) ((hA.below hb).more hb.size) (by omega) hlen (digs_ok _) (digs_ok _) (by rw [dval_digs,dval_digs];omega)
  rw [hla,hlb,dval_digs,dval_digs] at h
  exact h.mono fun e w' ⟨o,h1,h2,h3,_⟩=>⟨o,h1,h2,h3⟩
 have HM:Hid (∀ (wa wk:World) (o:List Nat) (A':Option Addr) (c':Nat),SlN wk (fun k=>wa.heap.size≤k) A' (dCs o)→w.heap.size+1+1+1≤wa.heap.size→dOk o→dval o=n - m→o.length≤c'→c'≤maxLen →
  Calls Tryz.prog 104 #[.int .i64 s2,.slice A' o.length c'] wk (GaveR (fun k=>P k∧k≠w.heap.size+1+1) N wk)):=hide fun wa wk o A' c' hsl hwa ho hv hc' hcm'=>by
  have h:=make16_any (fun k=>P k∧k≠w.heap.size+1+1) s2 o A' c' wk (hsl.mono fun k hk=>⟨hP k (by omega),by omega⟩) ho hc' hcm' (fun _=>h2)
  rw [hv,hN] at h
  exact h
 have hq:¬ 0≤cmpN m n:=by rw [cmpN_ge];omega
 obtain ⟨q,hqq⟩:∃ q,q=cmpN m n:=⟨_,rfl⟩
 rw [← hqq] at hq HC
 have h0':s1≠0:=by omega
 have h1':s2≠0:=by omega
 have r0:=h00.2.1;have r1:=h00.2.2.2.1;have r2:=h00.2.2.1;have r3:=h00.2.2.2.2.1
 have HSZ:=hide hsz;have H0B:=hide hb0
 clear hA hB hla hlb hP hN hb0 B1 B2 B3 hsz h1 h2 hmn hqq hlen
 go_enter Tryz.func73,Tryz.ntmps73
 go_wp2_with fail
 rw [← hw0]
 have HW0:=hide hw0
 clear hw0
 refine (HC.out _ H0B.out).mono ?_
 rintro e w1 ⟨rfl,hb1⟩
 have h01:=h00.keep hb1
 have hd0:=h01.keep (bl_drew (Below.refl _ _))
 clear r0 r1 r2 r3
 have r0:=h01.2.1;have r1:=h01.2.2.2.1
 go_wp2_with fail
 go_region_held3 (fun w'=>(Below w.heap.size w w'∧(w.heap.size+1+1+1)≤w'.heap.size∧R2 w' (w.heap.size+1+1))∧w'.cell? ⟨w.heap.size,0,none⟩=some (.int .i64 s1)∧w'.cell? ⟨w.heap.size,1,none⟩=some (.slice A la c)∧w'.cell? ⟨w.heap.size+1,0,none⟩=some (.int .i64 s2)∧w'.cell? ⟨w.heap.size+1,1,none⟩=some (.slice B lb d) ∧
  w'.cell? ⟨w.heap.size+1+1,0,none⟩=some (Cw w' ⟨w.heap.size+1+1,0,none⟩)∧w'.cell? ⟨w.heap.size+1+1,1,none⟩=some (Cw w' ⟨w.heap.size+1+1,1,none⟩)∧w'.frozen? ⟨w.heap.size+1+1,0,none⟩=false∧w'.frozen? ⟨w.heap.size+1+1,1,none⟩=false)
  (first | with_reducible exact hK5 | with_reducible exact hd0 | with_reducible exact h01 | with_reducible exact HeldB.keep (by assumption) (by assumption) | with_reducible exact hd0.keep (by assumption) | exact HeldB.set2 (by assumption) (by omega) (by omega) (by omega) _ _)
  (first
    | (go_at_call 120;((with_reducible refine (HD.out _ (by first | exact HeldB.below (by assumption))).mono ?_);rintro e w4 ⟨o,⟨A4,c4,rfl,hl4,hm4,hs4,hb4⟩,ho4,hv4⟩))
    | (go_at_call 104;((with_reducible refine (HM.out _ _ o A4 c4 hs4 (by first | exact HeldB.big (by assumption)) ho4 hv4 hl4 hm4).mono ?_);rintro e w5 ⟨A5,c5,rfl,hN5,hb5⟩;have hK5:=HeldB.keep (by assumption) hb5;unfold numV)))
 all_goals
  go_wp2
  exact bodyPost_ret (R2.run (HeldB.row hK5) rfl rfl) rfl (gave_set (HeldB.below hK5) (by omega) hN5)
end
section
open Go.RowKit
theorem sign_cases (n:Int):n.sign=-1∧n<0∨n.sign=0∧n=0∨n.sign=1∧0<n:=by
 rcases Int.lt_trichotomy n 0 with h | h | h
 · exact .inl ⟨Int.sign_eq_neg_one_of_neg h,h⟩
 · exact .inr (.inl ⟨by rw [h];rfl,h⟩)
 · exact .inr (.inr ⟨Int.sign_eq_one_of_pos h,h⟩)
theorem add_any (P:Nat→Prop) (a b:Int) (A B:Option Addr) (c d:Nat) (w:World) (ha:NumAt w P a A c) (hb:NumAt w P b B d) (hla:(digs a.natAbs).length≤1000) (hlb:(digs b.natAbs).length≤1000) (hP:Up w P) :
 Calls Tryz.prog 73 #[numV a A c,numV b B d] w (GaveR P (a+b) w):=by
 unfold numV
 by_cases h0:a=0
 · subst h0
   refine (add_zero b.sign _ _ A B c d w).mono ?_
   rintro e w' ⟨rfl,hbb⟩
   rw [Int.zero_add]
   exact ⟨B,d,rfl,hb.step hbb,hbb⟩
 · by_cases h1:b=0
   · subst h1
     refine (add_zero' a.sign (by rcases sign_cases a with h | h | h <;> omega) _ _ A B c d w).mono ?_
     rintro e w' ⟨rfl,hbb⟩
     rw [Int.add_zero]
     exact ⟨A,c,rfl,ha.step hbb,hbb⟩
   · have sa:=sign_cases a
     have sb:=sign_cases b
     generalize hsa:a.sign=s1 at *
     generalize hsb:b.sign=s2 at *
     by_cases hs:s1=s2
     · subst hs
       refine add_same P s1 _ _ _ _ A B c d w ha.1.any hb.1.any (digs_ok _) (digs_ok _) rfl rfl hla hlb hP (by omega) _ ?_
       rw [dval_digs,dval_digs]
       rcases sa with h | h | h
       · rw [h.1];omega
       · omega
       · rw [h.1];omega
     · rcases Nat.lt_or_ge a.natAbs b.natAbs with h | h
       · refine add_lt P s1 s2 _ _ _ _ A B c d w ha.1.any hb.1.any rfl rfl hla hlb hP hs (by omega) (by omega) h _ ?_
         rcases sb with h' | h' | h'
         · rw [h'.1];omega
         · omega
         · rw [h'.1];omega
       · refine add_ge P s1 s2 _ _ _ _ A B c d w ha.1.any hb.1.any rfl rfl hla hP hs (by omega) (by omega) h _ ?_
         rcases sa with h' | h' | h'
         · rw [h'.1];omega
         · omega
         · rw [h'.1];omega
theorem sub_raw (P:Nat→Prop) (a b:Int) (s1 s2:Int) (la lb:Nat) (A B:Option Addr) (c d:Nat) (w:World) (ha:NumAt w P a A c) (hb:NumAt w P b B d) (hsa:numV a A c=.agg #[.int .i64 s1,.slice A la c]) (hsb:numV b B d=.agg #[.int .i64 s2,.slice B lb d])
 (hla:(digs a.natAbs).length≤1000) (hlb:(digs b.natAbs).length≤1000) (hP:Up w P) :
 Calls Tryz.prog 81 #[.agg #[.int .i64 s1,.slice A la c],.agg #[.int .i64 s2,.slice B lb d]] w (GaveR P (a - b) w):=by
 obtain ⟨w0,hw0⟩:∃ w0,w0=((w.alloc (.cells #[.int .i64 s1,.slice A la c] 81)).alloc (.cells #[.int .i64 s2,.slice B lb d] 81)).alloc (.cells #[.int .i64 0,.slice none 0 0] 81):=⟨_,rfl⟩
 have hb0:Below w.heap.size w w0:=by rw [hw0];exact bl_alloc (bl_alloc (bA) _) _
 have B1:Blk w0 w.heap.size 81 #[.int .i64 s1,.slice A la c]:=by rw [hw0];exact ((Blk.new _ _ _).alloc _).alloc _
 have B2:Blk w0 (w.heap.size+1) 81 #[.int .i64 s2,.slice B lb d]:=by rw [hw0];exact (Blk.new2 _ _ _ _).alloc _
 have B3:Blk w0 (w.heap.size+1+1) 81 #[.int .i64 0,.slice none 0 0]:=by
  rw [hw0]
  have h:=Blk.new ((w.alloc (.cells #[.int .i64 s1,.slice A la c] 81)).alloc (.cells #[.int .i64 s2,.slice B lb d] 81)) 81 #[.int .i64 0,.slice none 0 0]
  simpa using h
 have hsz:w0.heap.size=w.heap.size+1+1+1:=by rw [hw0];simp
 have h00:HeldB w (w.heap.size+1+1+1) w.heap.size (w.heap.size+1) (w.heap.size+1+1) (.int .i64 s1) (.slice A la c) (.int .i64 s2) (.slice B lb d) w0 :=
  HeldB.mk' hb0 (Nat.le_of_eq hsz.symm) ⟨_,_,B3⟩ (B1.cell (i:=0) rfl) (B1.cell (i:=1) rfl) (B2.cell (i:=0) rfl) (B2.cell (i:=1) rfl)
 have HN:Hid (∀ wk,Below w.heap.size w wk→w.heap.size+1+1+1≤wk.heap.size→Calls Tryz.prog 76 #[.agg #[.int .i64 s2,.slice B lb d]] wk (GaveR (fun k=>P k∧k≠w.heap.size+1+1) (-b) wk)):=hide fun wk hbk hk=>by
  have h:=neg_any (fun k=>P k∧k≠w.heap.size+1+1) b B d wk (hb.ne hbk (by omega))
  rw [hsb] at h
  exact h
 have HD:Hid (∀ wk A' c',Below w.heap.size w wk→w.heap.size+1+1+1≤wk.heap.size→NumAt wk (fun k=>P k∧k≠w.heap.size+1+1) (-b) A' c'→Calls Tryz.prog 73 #[.agg #[.int .i64 s1,.slice A la c],.agg #[.int .i64 (-b).sign,.slice A' (digs (-b).natAbs).length c']] wk (GaveR (fun k=>P k∧k≠w.heap.size+1+1) (a - b) wk)):=hide fun wk A' c' hbk hk hn=>by
  have h:=add_any (fun k=>P k∧k≠w.heap.size+1+1) a (-b) A A' c c' wk (ha.ne hbk (by omega)) hn hla (by rw [Int.natAbs_neg];exact hlb) (hP.ne (by omega) (by omega))
  rw [hsa] at h
  exact h
 obtain ⟨N,hN⟩:∃ N,N=a - b:=⟨_,rfl⟩
 obtain ⟨nb,hnb⟩:∃ nb,nb=-b:=⟨_,rfl⟩
 rw [← hnb] at HD HN
 rw [← hN] at HD
 rw [← hN]
 have hd0:=h00.keep (bl_drew (Below.refl _ _))
 have HSZ:=hide hsz
 have HNN:=hide hN
 clear ha hb hsa hsb hla hlb hP hN hnb hb0 B1 B2 B3 hsz
 go_enter Tryz.func81,Tryz.ntmps81
 go_wp2_with fail
 rw [← hw0]
 have HW0:=hide hw0
 clear hw0
 go_region_held3 (fun w'=>(Below w.heap.size w w'∧(w.heap.size+1+1+1)≤w'.heap.size∧R2 w' (w.heap.size+1+1))∧w'.cell? ⟨w.heap.size,0,none⟩=some (.int .i64 s1)∧w'.cell? ⟨w.heap.size,1,none⟩=some (.slice A la c)∧w'.cell? ⟨w.heap.size+1,0,none⟩=some (.int .i64 s2)∧w'.cell? ⟨w.heap.size+1,1,none⟩=some (.slice B lb d) ∧
  w'.cell? ⟨w.heap.size+1+1,0,none⟩=some (Cw w' ⟨w.heap.size+1+1,0,none⟩)∧w'.cell? ⟨w.heap.size+1+1,1,none⟩=some (Cw w' ⟨w.heap.size+1+1,1,none⟩)∧w'.frozen? ⟨w.heap.size+1+1,0,none⟩=false∧w'.frozen? ⟨w.heap.size+1+1,1,none⟩=false)
  (first | with_reducible exact hK5 | with_reducible exact hd0 | with_reducible exact h00 | with_reducible exact HeldB.keep (by assumption) (by assumption) | with_reducible exact hd0.keep (by assumption) | exact HeldB.set2 (by assumption) (by omega) (by omega) (by omega) _ _)
  (first
    | (go_at_call 76;((with_reducible refine (HN.out _ (by first | exact HeldB.below (by assumption)) (by first | exact HeldB.big (by assumption))).mono ?_);rintro e w4 ⟨A4,c4,rfl,hN4,hb4⟩;unfold numV))
    | (go_at_call 73;((with_reducible refine (HD.out _ A4 c4 (by first | exact HeldB.below (by assumption)) (by first | exact HeldB.big (by assumption)) hN4).mono ?_);rintro e w5 ⟨A5,c5,rfl,hN5,hb5⟩;have hK5:=HeldB.keep (by assumption) hb5;unfold numV)))
 all_goals
  go_wp2
  exact bodyPost_ret (R2.run (HeldB.row hK5) rfl rfl) rfl (gave_set (HeldB.below hK5) (by omega) hN5)
theorem sub_any (P:Nat→Prop) (a b:Int) (A B:Option Addr) (c d:Nat) (w:World) (ha:NumAt w P a A c) (hb:NumAt w P b B d) (hla:(digs a.natAbs).length≤1000) (hlb:(digs b.natAbs).length≤1000) (hP:Up w P) :
 Calls Tryz.prog 81 #[numV a A c,numV b B d] w (GaveR P (a - b) w) :=
 sub_raw P a b a.sign b.sign _ _ A B c d w ha hb rfl rfl hla hlb hP
end
section
open Go.RowKit
theorem dval_zeros (k:Nat):dval (List.replicate k 0)=0:=by
 induction k with
 | zero=>rfl
 | succ k ih=>rw [List.replicate_succ,dval,ih]
theorem digs_pow (k:Nat):digs (65536 ^ k)=List.replicate k 0++[1]:=by
 have h1:dOk (List.replicate k 0++[1]):=fun d hd=>by
  rcases List.mem_append.1 hd with h | h
  · rw [(List.mem_replicate.1 h).2];decide
  · rw [List.mem_singleton.1 h];decide
 have h2:noLead (List.replicate k 0++[1]):=by unfold noLead;simp
 have h3:=noLead_digs h1 h2
 rw [dval_snoc,dval_zeros,List.length_replicate,Nat.mul_one,Nat.zero_add] at h3
 exact h3.symm
theorem power_any (P:Nat→Prop) (k:Nat) (hk:k≤100) (w:World) (hP:Up w P) :
 Calls Tryz.prog 105 #[.int .i64 (k:Int)] w (GaveR P ((65536:Int) ^ k) w):=by
 obtain ⟨w0,hw0⟩:∃ w0,w0=w.alloc (.cells #[.int .i64 0,.slice none 0 0] 81):=⟨_,rfl⟩
 have hb0:Below w.heap.size w w0:=by rw [hw0];exact bA
 have B0:Blk w0 w.heap.size 81 #[.int .i64 0,.slice none 0 0]:=by rw [hw0];exact Blk.new _ _ _
 have hsz:w0.heap.size=w.heap.size+1:=by rw [hw0];simp
 have HP:=hide hP
 obtain ⟨i0,hi,hz0,hz1,hz2⟩:=info_parts int_info
 have HB0:=hide hb0;have HBB:=hide B0;have HSZ:=hide hsz
 clear hP hb0 B0 hsz
 go_enter Tryz.func105,Tryz.ntmps105
 go_wp2
 rw [← hw0]
 clear hw0
 go_loopw [3,4] (fun d i wr=>∃ j:Nat,j≤k∧i=.int .i64 j∧Below w0.heap.size w0 wr∧wr.ownsRow w0.heap.size 3 1 d j (dCs (List.replicate j 0)))
  (fun _ i _=>k - (intOf i).toNat)
 case atStart=>exact ⟨0,by omega,rfl,Below.refl _ _,World.ownsRow_nil _ _ _ _⟩
 case round =>
  obtain ⟨j,hj,rfl,hbr,hown⟩:=hrel
  by_cases hlt:j<k
  · have hjk:(j:Int)<(k:Int):=by omega
    go_wp2_with (at_builtin;refine wpList_append_lies _ rfl (.tmp 10) (.tmp 11) 79 rfl w0.heap.size 3 i0 (.int .i64 0) 1 8 Tryz.underlying79 hi hz0 hz1 hz2 rfl (by decide) _ j _ rfl (own_step hown (bA)) ⟨wr.heap.size,0,none⟩ 1 1 [.int .i64 0] rfl rfl (blk_cells (Blk.new _ _ _)) (by simp [Value.oneCell']) (by omega) (by unfold maxLen;omega) (by omega) (by have:=hbr.size;simp;omega) (wr.heap.size+1) (by simp) ?_)
    intro g' cap w8 hown8 hgrow hat hlt8
    have hb8:Below w0.heap.size w0 w8:=(bl_alloc hbr _).grown hgrow (by have:=hbr.size;simp;omega) (fun j hj=>own_base hown hj)
    have HO8:=hide hown8;have HB8:=hide hb8
    clear hown8 hb8 hgrow hat hlt8
    go_wp2
    go_roundw
    case rel =>
     refine ⟨j+1,by omega,by go_num,HB8.out,?_⟩
     rw [List.replicate_succ',dCs_app]
     exact HO8.out
    case measure=>simp [intOf];omega
  · obtain rfl:j=k:=by omega
    have hjk:¬ (j:Int)<(j:Int):=by omega
    go_wp2_with (at_builtin;refine wpList_append_lies _ rfl (.tmp 13) (.tmp 14) 79 rfl w0.heap.size 3 i0 (.int .i64 0) 1 8 Tryz.underlying79 hi hz0 hz1 hz2 rfl (by decide) _ j _ rfl (own_step hown (bA)) ⟨wr.heap.size,0,none⟩ 1 1 [.int .i64 1] rfl rfl (blk_cells (Blk.new _ _ _)) (by simp [Value.oneCell']) (by omega) (by unfold maxLen;omega) (by omega) (by have:=hbr.size;simp;omega) (wr.heap.size+1) (by simp) ?_)
    intro g' cap w8 hown8 hgrow hat hlt8
    have hb8:Below w0.heap.size w0 w8:=(bl_alloc hbr _).grown hgrow (by have:=hbr.size;simp;omega) (fun j hj=>own_base hown hj)
    have hown9:w8.ownsRow w0.heap.size 3 1 (.slice (some ⟨g',0,none⟩) (j+1) cap) (j+1) (dCs (digs (65536 ^ j))):=by
     rw [digs_pow,dCs_app];exact hown8
    obtain ⟨A',c',hv,hc',hcm'⟩:=own_slice' hown9
    have hw8:Below w.heap.size w w8:=bl_step HB0.out hb8
    have B5:=HBB.out.below hb8 (by have:=HSZ.out;omega)
    have hN5:NumAt w8 (fun k=>P k∧k≠w.heap.size) ((65536:Int) ^ j) (some ⟨g',0,none⟩) cap:=by
     have e:((65536:Int) ^ j).natAbs=65536 ^ j:=by rw [Int.natAbs_pow];rfl
     unfold NumAt
     rw [e]
     refine ⟨(own_slN hown9).mono fun k hk=>⟨HP.out k (by have:=HSZ.out;omega),by have:=HSZ.out;omega⟩,?_,?_⟩
     · rw [digs_pow,List.length_append,List.length_replicate,List.length_singleton]
       injection hv with _ _ h3
       omega
     · injection hv with _ _ h3
       omega
    have HN5:=hide hN5;have HW8:=hide hw8
    have hlt:=B5.lt
    have b0:=B5.cell (i:=0) rfl
    have b1:=B5.cell (i:=1) rfl
    have f0:=B5.frozen 0
    have f1:=B5.frozen 1
    have HB5:=hide B5
    clear hown8 hown9 hv hb8 hgrow hat hlt8 B5 hN5 hw8
    go_wp2
    refine bodyPost_ret (results_num rfl rfl ((HB5.out.set 0 _).set 1 _)) rfl ?_
    have hg:=gave_set (u:=.int .i64 1) (v:=.slice (some ⟨g',0,none⟩) (j+1) cap) HW8.out (Nat.le_refl _) HN5.out
    have e:numV ((65536:Int) ^ j) (some ⟨g',0,none⟩) cap=.agg #[.int .i64 1,.slice (some ⟨g',0,none⟩) (j+1) cap]:=by
     unfold numV
     rw [Int.natAbs_pow,show (65536:Int).natAbs=65536 from rfl,digs_pow,Int.sign_eq_one_of_pos (Int.pow_pos (by decide))]
     simp
    rw [e] at hg
    exact hg
end
end Go.Proofs.YthnenedoblncjaaGreatDoor
