/- RefNum7 -/
import Derived.Deep.RegionHeld3
import Derived.Test.YthnenedoblncjaaGreatDoorPkA40
set_option maxRecDepth 1000000
set_option maxHeartbeats 8000000
namespace Go.Proofs.YthnenedoblncjaaGreatDoor
open Go.Proofs.Tryz
section
open Go.RowKit
def Cw(w:World)(a:Addr):Value:=(w.cell? a).getD undef
theorem Cw.of{w:World}{a:Addr}{v:Value}(h:w.cell? a=some v):w.cell? a=some (Cw w a):=by unfold Cw;rw [h];rfl
def R2(w:World)(g:Nat):Prop:=∃ u v,Z6 w g 81 #[u,v]
abbrev Zn(w:World)(n0 g1 g2 g:Nat)(v0 v1 u0 u1:Value)(w':World):Prop :=
 (Below w.heap.size w w'/\n0<=w'.heap.size/\R2 w' g)/\w'.cell? ⟨g1,0,none⟩=some v0/\w'.cell? ⟨g1,1,none⟩=some v1/\w'.cell? ⟨g2,0,none⟩=some u0/\w'.cell? ⟨g2,1,none⟩=some u1 /\
 w'.cell? ⟨g,0,none⟩=some (Cw w' ⟨g,0,none⟩)/\w'.cell? ⟨g,1,none⟩=some (Cw w' ⟨g,1,none⟩)/\w'.frozen? ⟨g,0,none⟩=false/\w'.frozen? ⟨g,1,none⟩=false
section
variable {w wk w':World}{n0 g1 g2 g:Nat}{v0 v1 u0 u1:Value}
theorem Zn.mk'(hb:Below w.heap.size w w')(hn:n0<=w'.heap.size)(hr:R2 w' g)(h1:w'.cell? ⟨g1,0,none⟩=some v0)(h2:w'.cell? ⟨g1,1,none⟩=some v1)(h3:w'.cell? ⟨g2,0,none⟩=some u0)(h4:w'.cell? ⟨g2,1,none⟩=some u1):
 Zn w n0 g1 g2 g v0 v1 u0 u1 w':=by
 have hr':=hr;obtain ⟨u,v,hB⟩:=hr';exact ⟨⟨hb,hn,hr⟩,h1,h2,h3,h4,Cw.of (hB.q0 rfl),Cw.of (hB.q1 rfl),hB.frozen 0,hB.frozen 1⟩
theorem Zn.keep(h:Zn w n0 g1 g2 g v0 v1 u0 u1 wk)(hb:Below wk.heap.size wk w'):Zn w n0 g1 g2 g v0 v1 u0 u1 w':=by
 have on:∀ {b o:Nat} {v:Value},wk.cell? ⟨b,o,none⟩=some v->w'.cell? ⟨b,o,none⟩=some v:=fun h=>(hb.cell (p:=⟨_,_,none⟩) (Zv h)).trans h;obtain ⟨⟨h0,hn,u,v,hB⟩,h1,h2,h3,h4,_⟩:=h;exact Zn.mk' (Z9 h0 hb) (Nat.le_trans hn hb.size) ⟨u,v,hB.step hb⟩ (on h1) (on h2) (on h3) (on h4)
theorem Zn.set2(h:Zn w n0 g1 g2 g v0 v1 u0 u1 wk)(h1:g1≠g)(h2:g2≠g)(hg:w.heap.size<=g)(x y:Value):Zn w n0 g1 g2 g v0 v1 u0 u1 ((wk.setCell ⟨g,0,none⟩ x).setCell ⟨g,1,none⟩ y):=by
 have on:∀ {b o:Nat} {v:Value},b≠g->wk.cell? ⟨b,o,none⟩=some v->((wk.setCell ⟨g,0,none⟩ x).setCell ⟨g,1,none⟩ y).cell? ⟨b,o,none⟩=some v:=fun hb h=>by
  rw [World.cell?_of_block (Below.heap_setCell _ _ _ _ (by exact hb)),World.cell?_of_block (Below.heap_setCell _ _ _ _ (by exact hb))];exact h
 obtain ⟨⟨h0,hn,u,v,hB⟩,c1,c2,c3,c4,_⟩:=h;exact Zn.mk' ((h0.setCell (by exact hg) _).setCell (by exact hg) _) (by simpa [World.size_setCell] using hn) ⟨_,_,(hB.set 0 x).set 1 y⟩ (on h1 c1) (on h1 c2) (on h2 c3) (on h2 c4)
theorem Zn.big(h:Zn w n0 g1 g2 g v0 v1 u0 u1 wk):n0<=wk.heap.size:=h.1.2.1
theorem Zn.row(h:Zn w n0 g1 g2 g v0 v1 u0 u1 wk):R2 wk g:=h.1.2.2
theorem R2.run{fn:Func}{tmps:Array Value}{w5:World}{k g:Nat}{v0 v1:Value}(h:R2 w5 g)(hr:fn.results=#[.cell k 81])(hp:tmps.getD k undef=.pointer (some ⟨g,0,none⟩)):
 (results fn tmps).run prog ((w5.setCell ⟨g,0,none⟩ v0).setCell ⟨g,1,none⟩ v1)=.ok (.agg #[v0,v1]) ((w5.setCell ⟨g,0,none⟩ v0).setCell ⟨g,1,none⟩ v1):=by
 obtain ⟨u,v,hB⟩:=h;exact Yv hr hp ((hB.set 0 v0).set 1 v1)
theorem Zn.below(h:Zn w n0 g1 g2 g v0 v1 u0 u1 wk):Below w.heap.size w wk:=h.1.1
end
theorem add_zero(s2:Int)(m n:Nat)(A B:Option Addr)(c d:Nat)(w:World):
 Calls prog 73 #[.agg #[.int .i64 0,.slice A m c],.agg #[.int .i64 s2,.slice B n d]] w fun e w'=>e=.returned (.agg #[.int .i64 s2,.slice B n d])/\Below w.heap.size w w':=by
 go_enter func73,ntmps73;go_wp2;have h:=Z6.new ((w.alloc (.cells #[.int .i64 0,.slice A m c] 81)).alloc (.cells #[.int .i64 s2,.slice B n d] 81)) 81 #[.int .i64 s2,.slice B n d];refine bodyPost_ret (Yv rfl rfl (by simpa using h)) rfl ?_;exact ⟨rfl,Z7 (Z7 (bA) _) _⟩
theorem add_zero'(s1:Int)(h0:s1≠0)(m n:Nat)(A B:Option Addr)(c d:Nat)(w:World):
 Calls prog 73 #[.agg #[.int .i64 s1,.slice A m c],.agg #[.int .i64 0,.slice B n d]] w fun e w'=>e=.returned (.agg #[.int .i64 s1,.slice A m c])/\Below w.heap.size w w':=by
 go_enter func73,ntmps73;go_wp2;have h:=Z6.new ((w.alloc (.cells #[.int .i64 s1,.slice A m c] 81)).alloc (.cells #[.int .i64 0,.slice B n d] 81)) 81 #[.int .i64 s1,.slice A m c];refine bodyPost_ret (Yv rfl rfl (by simpa using h)) rfl ?_;exact ⟨rfl,Z7 (Z7 (bA) _) _⟩
theorem add_same (P:Nat->Prop) (s:Int) (l1 l2:List Nat) (la lb:Nat) (A B:Option Addr) (c d:Nat) (w:World) (hA:Sl w w.heap.size A (UZ l1)) (hB:Sl w w.heap.size B (UZ l2)) (ok1:Vb l1) (vH:Vb l2)
 (hla:l1.length=la) (hlb:l2.length=lb) (hm:la<=1000) (hn:lb<=1000) (hP:Up w P) (h0:s=1\/s=-1) (N:Int) (hN:s*(dval l1+dval l2:Nat)=N) :
 Calls prog 73 #[.agg #[.int .i64 s,.slice A la c],.agg #[.int .i64 s,.slice B lb d]] w (Ze P N w):=by
 obtain ⟨w0,hw0⟩:=eE (((w.alloc (.cells #[.int .i64 s,.slice A la c] 81)).alloc (.cells #[.int .i64 s,.slice B lb d] 81)).alloc (.cells #[.int .i64 0,.slice none 0 0] 81));have hb0:Below w.heap.size w w0:=by rw [hw0];exact Z7 (Z7 (bA) _) _
 have B1:Z6 w0 w.heap.size 81 #[.int .i64 s,.slice A la c]:=by rw [hw0];exact ((Z6.new _ _ _).alloc _).alloc _
 have B2:Z6 w0 (w.heap.size+1) 81 #[.int .i64 s,.slice B lb d]:=by rw [hw0];exact (Z6.new2 _ _ _ _).alloc _
 have B3:Z6 w0 (w.heap.size+1+1) 81 #[.int .i64 0,.slice none 0 0]:=by
  rw [hw0];have h:=Z6.new ((w.alloc (.cells #[.int .i64 s,.slice A la c] 81)).alloc (.cells #[.int .i64 s,.slice B lb d] 81)) 81 #[.int .i64 0,.slice none 0 0];simpa using h
 have hsz:w0.heap.size=w.heap.size+1+1+1:=by rw [hw0];simp
 have h00:Zn w (w.heap.size+1+1+1) w.heap.size (w.heap.size+1) (w.heap.size+1+1) (.int .i64 s) (.slice A la c) (.int .i64 s) (.slice B lb d) w0 :=
  Zn.mk' hb0 (Nat.le_of_eq hsz.symm) ⟨_,_,B3⟩ (B1.q0 rfl) (B1.q1 rfl) (B2.q0 rfl) (B2.q1 rfl)
 have HD:Hid (∀ wk,Below w.heap.size w wk->Calls prog 118 #[.slice A la c,.slice B lb d] wk fun e w'=>∃ o,Ew o wk e w'/\Vb o/\dval o=dval l1+dval l2):=hide fun wk hb=>by
  have h:=qZ l1 l2 A B c d wk ((hA.below hb).more hb.size) ((hB.below hb).more hb.size) (by omega) (by omega) ok1 vH;rw [hla,hlb] at h;exact h.mono fun e w' ⟨o,h1,h2,h3,_⟩=>⟨o,h1,h2,h3⟩
 have HM:Hid (∀ (wa wk:World) (o:List Nat) (A':Option Addr) (c':Nat),PG wk (fun k=>wa.heap.size<=k) A' (UZ o)->w.heap.size+1+1+1<=wa.heap.size->Vb o->dval o=dval l1+dval l2->o.length<=c'->c'<=maxLen ->
  Calls prog 104 #[.int .i64 s,.slice A' o.length c'] wk (Ze (fun k=>P k/\k≠w.heap.size+1+1) N wk)):=hide fun wa wk o A' c' hsl xA ho hv hc' hcm'=>by
  have h:=VI (fun k=>P k/\k≠w.heap.size+1+1) s o A' c' wk (hsl.mono fun k hk=>⟨hP k (by omega),by omega⟩) ho hc' hcm' (fun _=>h0);rw [hv,hN] at h;exact h
 have h0':s≠0:=by omega
 have hd0:=h00.keep (ZU (Below.refl _ _));have r0:=h00.2.1;have r1:=h00.2.2.2.1;have Va:=hide hsz;clear hA hB ok1 vH hla hlb hP hN hb0 B1 B2 B3 hsz h0;go_enter func73,ntmps73;go_wp2_with fail;rw [<- hw0];have HW0:=hide hw0;clear hw0
 go_region_held3 (fun w'=>(Below w.heap.size w w'/\(w.heap.size+1+1+1)<=w'.heap.size/\R2 w' (w.heap.size+1+1))/\w'.cell? ⟨w.heap.size,0,none⟩=some (.int .i64 s)/\w'.cell? ⟨w.heap.size,1,none⟩=some (.slice A la c)/\w'.cell? ⟨w.heap.size+1,0,none⟩=some (.int .i64 s)/\w'.cell? ⟨w.heap.size+1,1,none⟩=some (.slice B lb d) /\
  w'.cell? ⟨w.heap.size+1+1,0,none⟩=some (Cw w' ⟨w.heap.size+1+1,0,none⟩)/\w'.cell? ⟨w.heap.size+1+1,1,none⟩=some (Cw w' ⟨w.heap.size+1+1,1,none⟩)/\w'.frozen? ⟨w.heap.size+1+1,0,none⟩=false/\w'.frozen? ⟨w.heap.size+1+1,1,none⟩=false)
  (first|with_reducible exact Cm|with_reducible exact hd0|with_reducible exact h00|with_reducible exact Zn.keep (by assumption) (by assumption)|with_reducible exact hd0.keep (by assumption)|exact Zn.set2 (by assumption) (by omega) (by omega) (by omega) _ _)
  (first
    | (go_at_call 118;((with_reducible refine (HD.out _ (by first|exact Zn.below (by assumption))).mono ?_);rintro e w4 ⟨o,⟨A4,c4,rfl,hl4,hm4,hs4,hb4⟩,ho4,hv4⟩))
    | (go_at_call 104;((with_reducible refine (HM.out _ _ o A4 c4 hs4 (by first|exact Zn.big (by assumption)) ho4 hv4 hl4 hm4).mono ?_);rintro e w5 ⟨A5,c5,rfl,UR,hb5⟩;have Cm:=Zn.keep (by assumption) hb5;unfold YQ)))
 all_goals
  go_wp2;exact bodyPost_ret (R2.run (Zn.row Cm) rfl rfl) rfl (XD (Zn.below Cm) (by omega) UR)
theorem bG (P:Nat->Prop) (s1 s2:Int) (m n:Nat) (la lb:Nat) (A B:Option Addr) (c d:Nat) (w:World) (hA:Sl w w.heap.size A (UZ (ZB m))) (hB:Sl w w.heap.size B (UZ (ZB n)))
 (hla:(ZB m).length=la) (hlb:(ZB n).length=lb) (hm:la<=1000) (hP:Up w P) (hs:s1≠s2) (h1:s1=1\/s1=-1) (h2:s2=1\/s2=-1) (hmn:n<=m) (N:Int) (hN:s1*(m - n:Nat)=N) :
 Calls prog 73 #[.agg #[.int .i64 s1,.slice A la c],.agg #[.int .i64 s2,.slice B lb d]] w (Ze P N w):=by
 obtain ⟨w0,hw0⟩:=eE (((w.alloc (.cells #[.int .i64 s1,.slice A la c] 81)).alloc (.cells #[.int .i64 s2,.slice B lb d] 81)).alloc (.cells #[.int .i64 0,.slice none 0 0] 81));have hb0:Below w.heap.size w w0:=by rw [hw0];exact Z7 (Z7 (bA) _) _
 have B1:Z6 w0 w.heap.size 81 #[.int .i64 s1,.slice A la c]:=by rw [hw0];exact ((Z6.new _ _ _).alloc _).alloc _
 have B2:Z6 w0 (w.heap.size+1) 81 #[.int .i64 s2,.slice B lb d]:=by rw [hw0];exact (Z6.new2 _ _ _ _).alloc _
 have B3:Z6 w0 (w.heap.size+1+1) 81 #[.int .i64 0,.slice none 0 0]:=by
  rw [hw0];have h:=Z6.new ((w.alloc (.cells #[.int .i64 s1,.slice A la c] 81)).alloc (.cells #[.int .i64 s2,.slice B lb d] 81)) 81 #[.int .i64 0,.slice none 0 0];simpa using h
 have hsz:w0.heap.size=w.heap.size+1+1+1:=by rw [hw0];simp
 have h00:Zn w (w.heap.size+1+1+1) w.heap.size (w.heap.size+1) (w.heap.size+1+1) (.int .i64 s1) (.slice A la c) (.int .i64 s2) (.slice B lb d) w0 :=
  Zn.mk' hb0 (Nat.le_of_eq hsz.symm) ⟨_,_,B3⟩ (B1.q0 rfl) (B1.q1 rfl) (B2.q0 rfl) (B2.q1 rfl)
 have hlen:(ZB n).length<=(ZB m).length:=PV (Nat.lt_of_le_of_lt (by omega) (Hw m))
 have HC:Hid (∀ wk,Below w.heap.size w wk->Calls prog 119 #[.slice A la c,.slice B lb d] wk fun e w'=>e=.returned (.int .i64 (TD m n))/\Below wk.heap.size wk w'):=hide fun wk hb=>by
  have h:=NQ m n A B c d wk ((hA.below hb).more hb.size) ((hB.below hb).more hb.size) (by omega);rw [hla,hlb] at h;exact h
 have HD:Hid (∀ wk,Below w.heap.size w wk->Calls prog 120 #[.slice A la c,.slice B lb d] wk fun e w'=>∃ o,Ew o wk e w'/\Vb o/\dval o=m - n):=hide fun wk hb=>by
  have h:=GI (ZB m) (ZB n) A B c d wk ((hA.below hb).more hb.size) ((hB.below hb).more hb.size) (by omega) hlen (VY _) (VY _) (by rw [YT,YT];omega);rw [hla,hlb,YT,YT] at h;exact h.mono fun e w' ⟨o,h1,h2,h3,_⟩=>⟨o,h1,h2,h3⟩
 have HM:Hid (∀ (wa wk:World) (o:List Nat) (A':Option Addr) (c':Nat),PG wk (fun k=>wa.heap.size<=k) A' (UZ o)->w.heap.size+1+1+1<=wa.heap.size->Vb o->dval o=m - n->o.length<=c'->c'<=maxLen ->
  Calls prog 104 #[.int .i64 s1,.slice A' o.length c'] wk (Ze (fun k=>P k/\k≠w.heap.size+1+1) N wk)):=hide fun wa wk o A' c' hsl xA ho hv hc' hcm'=>by
  have h:=VI (fun k=>P k/\k≠w.heap.size+1+1) s1 o A' c' wk (hsl.mono fun k hk=>⟨hP k (by omega),by omega⟩) ho hc' hcm' (fun _=>h1);rw [hv,hN] at h;exact h
 have hq:0<=TD m n:=by rw [Ai];exact hmn
 obtain ⟨q,hqq⟩:=eE (TD m n);rw [<- hqq] at hq HC;have h0':s1≠0:=by omega
 have h1':s2≠0:=by omega
 have r0:=h00.2.1;have r1:=h00.2.2.2.1;have r2:=h00.2.2.1;have r3:=h00.2.2.2.2.1;have Va:=hide hsz;have H0B:=hide hb0;clear hA hB hla hlb hP hN hb0 B1 B2 B3 hsz h1 h2 hmn hqq hlen;go_enter func73,ntmps73;go_wp2_with fail;rw [<- hw0];have HW0:=hide hw0;clear hw0;refine (HC.out _ H0B.out).mono ?_;rintro e w1 ⟨rfl,hb1⟩;have h01:=h00.keep hb1;have hd0:=h01.keep (ZU (Below.refl _ _));clear r0 r1 r2 r3;have r0:=h01.2.1;have r1:=h01.2.2.2.1;go_wp2_with fail
 go_region_held3 (fun w'=>(Below w.heap.size w w'/\(w.heap.size+1+1+1)<=w'.heap.size/\R2 w' (w.heap.size+1+1))/\w'.cell? ⟨w.heap.size,0,none⟩=some (.int .i64 s1)/\w'.cell? ⟨w.heap.size,1,none⟩=some (.slice A la c)/\w'.cell? ⟨w.heap.size+1,0,none⟩=some (.int .i64 s2)/\w'.cell? ⟨w.heap.size+1,1,none⟩=some (.slice B lb d) /\
  w'.cell? ⟨w.heap.size+1+1,0,none⟩=some (Cw w' ⟨w.heap.size+1+1,0,none⟩)/\w'.cell? ⟨w.heap.size+1+1,1,none⟩=some (Cw w' ⟨w.heap.size+1+1,1,none⟩)/\w'.frozen? ⟨w.heap.size+1+1,0,none⟩=false/\w'.frozen? ⟨w.heap.size+1+1,1,none⟩=false)
  (first|with_reducible exact Cm|with_reducible exact hd0|with_reducible exact h01|with_reducible exact Zn.keep (by assumption) (by assumption)|with_reducible exact hd0.keep (by assumption)|exact Zn.set2 (by assumption) (by omega) (by omega) (by omega) _ _)
  (first
    | (go_at_call 120;((with_reducible refine (HD.out _ (by first|exact Zn.below (by assumption))).mono ?_);rintro e w4 ⟨o,⟨A4,c4,rfl,hl4,hm4,hs4,hb4⟩,ho4,hv4⟩))
    | (go_at_call 104;((with_reducible refine (HM.out _ _ o A4 c4 hs4 (by first|exact Zn.big (by assumption)) ho4 hv4 hl4 hm4).mono ?_);rintro e w5 ⟨A5,c5,rfl,UR,hb5⟩;have Cm:=Zn.keep (by assumption) hb5;unfold YQ)))
 all_goals
  go_wp2;exact bodyPost_ret (R2.run (Zn.row Cm) rfl rfl) rfl (XD (Zn.below Cm) (by omega) UR)
theorem add_lt (P:Nat->Prop) (s1 s2:Int) (m n:Nat) (la lb:Nat) (A B:Option Addr) (c d:Nat) (w:World) (hA:Sl w w.heap.size A (UZ (ZB m))) (hB:Sl w w.heap.size B (UZ (ZB n)))
 (hla:(ZB m).length=la) (hlb:(ZB n).length=lb) (hm:la<=1000) (hn:lb<=1000) (hP:Up w P) (hs:s1≠s2) (h1:s1=1\/s1=-1) (h2:s2=1\/s2=-1) (hmn:m<n) (N:Int) (hN:s2*(n - m:Nat)=N) :
 Calls prog 73 #[.agg #[.int .i64 s1,.slice A la c],.agg #[.int .i64 s2,.slice B lb d]] w (Ze P N w):=by
 obtain ⟨w0,hw0⟩:=eE (((w.alloc (.cells #[.int .i64 s1,.slice A la c] 81)).alloc (.cells #[.int .i64 s2,.slice B lb d] 81)).alloc (.cells #[.int .i64 0,.slice none 0 0] 81));have hb0:Below w.heap.size w w0:=by rw [hw0];exact Z7 (Z7 (bA) _) _
 have B1:Z6 w0 w.heap.size 81 #[.int .i64 s1,.slice A la c]:=by rw [hw0];exact ((Z6.new _ _ _).alloc _).alloc _
 have B2:Z6 w0 (w.heap.size+1) 81 #[.int .i64 s2,.slice B lb d]:=by rw [hw0];exact (Z6.new2 _ _ _ _).alloc _
 have B3:Z6 w0 (w.heap.size+1+1) 81 #[.int .i64 0,.slice none 0 0]:=by
  rw [hw0];have h:=Z6.new ((w.alloc (.cells #[.int .i64 s1,.slice A la c] 81)).alloc (.cells #[.int .i64 s2,.slice B lb d] 81)) 81 #[.int .i64 0,.slice none 0 0];simpa using h
 have hsz:w0.heap.size=w.heap.size+1+1+1:=by rw [hw0];simp
 have h00:Zn w (w.heap.size+1+1+1) w.heap.size (w.heap.size+1) (w.heap.size+1+1) (.int .i64 s1) (.slice A la c) (.int .i64 s2) (.slice B lb d) w0 :=
  Zn.mk' hb0 (Nat.le_of_eq hsz.symm) ⟨_,_,B3⟩ (B1.q0 rfl) (B1.q1 rfl) (B2.q0 rfl) (B2.q1 rfl)
 have hlen:(ZB m).length<=(ZB n).length:=PV (Nat.lt_of_le_of_lt (by omega) (Hw n))
 have HC:Hid (∀ wk,Below w.heap.size w wk->Calls prog 119 #[.slice A la c,.slice B lb d] wk fun e w'=>e=.returned (.int .i64 (TD m n))/\Below wk.heap.size wk w'):=hide fun wk hb=>by
  have h:=NQ m n A B c d wk ((hA.below hb).more hb.size) ((hB.below hb).more hb.size) (by omega);rw [hla,hlb] at h;exact h
 have HD:Hid (∀ wk,Below w.heap.size w wk->Calls prog 120 #[.slice B lb d,.slice A la c] wk fun e w'=>∃ o,Ew o wk e w'/\Vb o/\dval o=n - m):=hide fun wk hb=>by
  have h:=GI (ZB n) (ZB m) B A d c wk ((hB.below hb).more hb.size) ((hA.below hb).more hb.size) (by omega) hlen (VY _) (VY _) (by rw [YT,YT];omega);rw [hla,hlb,YT,YT] at h;exact h.mono fun e w' ⟨o,h1,h2,h3,_⟩=>⟨o,h1,h2,h3⟩
 have HM:Hid (∀ (wa wk:World) (o:List Nat) (A':Option Addr) (c':Nat),PG wk (fun k=>wa.heap.size<=k) A' (UZ o)->w.heap.size+1+1+1<=wa.heap.size->Vb o->dval o=n - m->o.length<=c'->c'<=maxLen ->
  Calls prog 104 #[.int .i64 s2,.slice A' o.length c'] wk (Ze (fun k=>P k/\k≠w.heap.size+1+1) N wk)):=hide fun wa wk o A' c' hsl xA ho hv hc' hcm'=>by
  have h:=VI (fun k=>P k/\k≠w.heap.size+1+1) s2 o A' c' wk (hsl.mono fun k hk=>⟨hP k (by omega),by omega⟩) ho hc' hcm' (fun _=>h2);rw [hv,hN] at h;exact h
 have hq:¬ 0<=TD m n:=by rw [Ai];omega
 obtain ⟨q,hqq⟩:=eE (TD m n);rw [<- hqq] at hq HC;have h0':s1≠0:=by omega
 have h1':s2≠0:=by omega
 have r0:=h00.2.1;have r1:=h00.2.2.2.1;have r2:=h00.2.2.1;have r3:=h00.2.2.2.2.1;have Va:=hide hsz;have H0B:=hide hb0;clear hA hB hla hlb hP hN hb0 B1 B2 B3 hsz h1 h2 hmn hqq hlen;go_enter func73,ntmps73;go_wp2_with fail;rw [<- hw0];have HW0:=hide hw0;clear hw0;refine (HC.out _ H0B.out).mono ?_;rintro e w1 ⟨rfl,hb1⟩;have h01:=h00.keep hb1;have hd0:=h01.keep (ZU (Below.refl _ _));clear r0 r1 r2 r3;have r0:=h01.2.1;have r1:=h01.2.2.2.1;go_wp2_with fail
 go_region_held3 (fun w'=>(Below w.heap.size w w'/\(w.heap.size+1+1+1)<=w'.heap.size/\R2 w' (w.heap.size+1+1))/\w'.cell? ⟨w.heap.size,0,none⟩=some (.int .i64 s1)/\w'.cell? ⟨w.heap.size,1,none⟩=some (.slice A la c)/\w'.cell? ⟨w.heap.size+1,0,none⟩=some (.int .i64 s2)/\w'.cell? ⟨w.heap.size+1,1,none⟩=some (.slice B lb d) /\
  w'.cell? ⟨w.heap.size+1+1,0,none⟩=some (Cw w' ⟨w.heap.size+1+1,0,none⟩)/\w'.cell? ⟨w.heap.size+1+1,1,none⟩=some (Cw w' ⟨w.heap.size+1+1,1,none⟩)/\w'.frozen? ⟨w.heap.size+1+1,0,none⟩=false/\w'.frozen? ⟨w.heap.size+1+1,1,none⟩=false)
  (first|with_reducible exact Cm|with_reducible exact hd0|with_reducible exact h01|with_reducible exact Zn.keep (by assumption) (by assumption)|with_reducible exact hd0.keep (by assumption)|exact Zn.set2 (by assumption) (by omega) (by omega) (by omega) _ _)
  (first
    | (go_at_call 120;((with_reducible refine (HD.out _ (by first|exact Zn.below (by assumption))).mono ?_);rintro e w4 ⟨o,⟨A4,c4,rfl,hl4,hm4,hs4,hb4⟩,ho4,hv4⟩))
    | (go_at_call 104;((with_reducible refine (HM.out _ _ o A4 c4 hs4 (by first|exact Zn.big (by assumption)) ho4 hv4 hl4 hm4).mono ?_);rintro e w5 ⟨A5,c5,rfl,UR,hb5⟩;have Cm:=Zn.keep (by assumption) hb5;unfold YQ)))
 all_goals
  go_wp2;exact bodyPost_ret (R2.run (Zn.row Cm) rfl rfl) rfl (XD (Zn.below Cm) (by omega) UR)
end
section
open Go.RowKit
theorem QV(n:Int):n.sign=-1/\n<0\/n.sign=0/\n=0\/n.sign=1/\0<n:=by
 rcases Int.lt_trichotomy n 0 with h|h|h
 · exact .inl ⟨Int.sign_eq_neg_one_of_neg h,h⟩
 · exact .inr (.inl ⟨by rw [h];rfl,h⟩)
 · exact .inr (.inr ⟨Int.sign_eq_one_of_pos h,h⟩)
theorem MQ(P:Nat->Prop)(a b:Int)(A B:Option Addr)(c d:Nat)(w:World)(ha:ZJ w P a A c)(hb:ZJ w P b B d)(hla:(ZB a.natAbs).length<=1000)(hlb:(ZB b.natAbs).length<=1000)(hP:Up w P):
 Calls prog 73 #[YQ a A c,YQ b B d] w (Ze P (a+b) w):=by
 unfold YQ
 by_cases h0:a=0
 · subst h0;refine (add_zero b.sign _ _ A B c d w).mono ?_;rintro e w' ⟨rfl,hbb⟩;rw [Int.zero_add];exact ⟨B,d,rfl,hb.step hbb,hbb⟩
 · by_cases h1:b=0
   · subst h1;refine (add_zero' a.sign (by rcases QV a with h|h|h <;> omega) _ _ A B c d w).mono ?_;rintro e w' ⟨rfl,hbb⟩;rw [Int.add_zero];exact ⟨A,c,rfl,ha.step hbb,hbb⟩
   · have sa:=QV a;have sb:=QV b;generalize hsa:a.sign=s1 at *;generalize hsb:b.sign=s2 at *
     by_cases hs:s1=s2
     · subst hs;refine add_same P s1 _ _ _ _ A B c d w ha.1.any hb.1.any (VY _) (VY _) rfl rfl hla hlb hP (by omega) _ ?_;rw [YT,YT];rcases sa with h|h|h
       · rw [h.1];omega
       · omega
       · rw [h.1];omega
     · rcases Nat.lt_or_ge a.natAbs b.natAbs with h|h
       · refine add_lt P s1 s2 _ _ _ _ A B c d w ha.1.any hb.1.any rfl rfl hla hlb hP hs (by omega) (by omega) h _ ?_;rcases sb with h'|h'|h'
         · rw [h'.1];omega
         · omega
         · rw [h'.1];omega
       · refine bG P s1 s2 _ _ _ _ A B c d w ha.1.any hb.1.any rfl rfl hla hP hs (by omega) (by omega) h _ ?_;rcases sa with h'|h'|h'
         · rw [h'.1];omega
         · omega
         · rw [h'.1];omega
theorem pR (P:Nat->Prop) (a b:Int) (s1 s2:Int) (la lb:Nat) (A B:Option Addr) (c d:Nat) (w:World) (ha:ZJ w P a A c) (hb:ZJ w P b B d) (hsa:YQ a A c=.agg #[.int .i64 s1,.slice A la c]) (hsb:YQ b B d=.agg #[.int .i64 s2,.slice B lb d])
 (hla:(ZB a.natAbs).length<=1000) (hlb:(ZB b.natAbs).length<=1000) (hP:Up w P) :
 Calls prog 81 #[.agg #[.int .i64 s1,.slice A la c],.agg #[.int .i64 s2,.slice B lb d]] w (Ze P (a - b) w):=by
 obtain ⟨w0,hw0⟩:=eE (((w.alloc (.cells #[.int .i64 s1,.slice A la c] 81)).alloc (.cells #[.int .i64 s2,.slice B lb d] 81)).alloc (.cells #[.int .i64 0,.slice none 0 0] 81));have hb0:Below w.heap.size w w0:=by rw [hw0];exact Z7 (Z7 (bA) _) _
 have B1:Z6 w0 w.heap.size 81 #[.int .i64 s1,.slice A la c]:=by rw [hw0];exact ((Z6.new _ _ _).alloc _).alloc _
 have B2:Z6 w0 (w.heap.size+1) 81 #[.int .i64 s2,.slice B lb d]:=by rw [hw0];exact (Z6.new2 _ _ _ _).alloc _
 have B3:Z6 w0 (w.heap.size+1+1) 81 #[.int .i64 0,.slice none 0 0]:=by
  rw [hw0];have h:=Z6.new ((w.alloc (.cells #[.int .i64 s1,.slice A la c] 81)).alloc (.cells #[.int .i64 s2,.slice B lb d] 81)) 81 #[.int .i64 0,.slice none 0 0];simpa using h
 have hsz:w0.heap.size=w.heap.size+1+1+1:=by rw [hw0];simp
 have h00:Zn w (w.heap.size+1+1+1) w.heap.size (w.heap.size+1) (w.heap.size+1+1) (.int .i64 s1) (.slice A la c) (.int .i64 s2) (.slice B lb d) w0 :=
  Zn.mk' hb0 (Nat.le_of_eq hsz.symm) ⟨_,_,B3⟩ (B1.q0 rfl) (B1.q1 rfl) (B2.q0 rfl) (B2.q1 rfl)
 have HN:Hid (∀ wk,Below w.heap.size w wk->w.heap.size+1+1+1<=wk.heap.size->Calls prog 76 #[.agg #[.int .i64 s2,.slice B lb d]] wk (Ze (fun k=>P k/\k≠w.heap.size+1+1) (-b) wk)):=hide fun wk hbk hk=>by
  have h:=oo (fun k=>P k/\k≠w.heap.size+1+1) b B d wk (hb.ne hbk (by omega));rw [hsb] at h;exact h
 have HD:Hid (∀ wk A' c',Below w.heap.size w wk->w.heap.size+1+1+1<=wk.heap.size->ZJ wk (fun k=>P k/\k≠w.heap.size+1+1) (-b) A' c'->Calls prog 73 #[.agg #[.int .i64 s1,.slice A la c],.agg #[.int .i64 (-b).sign,.slice A' (ZB (-b).natAbs).length c']] wk (Ze (fun k=>P k/\k≠w.heap.size+1+1) (a - b) wk)):=hide fun wk A' c' hbk hk hn=>by
  have h:=MQ (fun k=>P k/\k≠w.heap.size+1+1) a (-b) A A' c c' wk (ha.ne hbk (by omega)) hn hla (by rw [Int.natAbs_neg];exact hlb) (hP.ne (by omega) (by omega));rw [hsa] at h;exact h
 obtain ⟨N,hN⟩:=eE (a - b);obtain ⟨nb,hnb⟩:=eE (-b);rw [<- hnb] at HD HN;rw [<- hN] at HD;rw [<- hN];have hd0:=h00.keep (ZU (Below.refl _ _));have Va:=hide hsz;have jH:=hide hN;clear ha hb hsa hsb hla hlb hP hN hnb hb0 B1 B2 B3 hsz;go_enter func81,ntmps81;go_wp2_with fail;rw [<- hw0];have HW0:=hide hw0;clear hw0
 go_region_held3 (fun w'=>(Below w.heap.size w w'/\(w.heap.size+1+1+1)<=w'.heap.size/\R2 w' (w.heap.size+1+1))/\w'.cell? ⟨w.heap.size,0,none⟩=some (.int .i64 s1)/\w'.cell? ⟨w.heap.size,1,none⟩=some (.slice A la c)/\w'.cell? ⟨w.heap.size+1,0,none⟩=some (.int .i64 s2)/\w'.cell? ⟨w.heap.size+1,1,none⟩=some (.slice B lb d) /\
  w'.cell? ⟨w.heap.size+1+1,0,none⟩=some (Cw w' ⟨w.heap.size+1+1,0,none⟩)/\w'.cell? ⟨w.heap.size+1+1,1,none⟩=some (Cw w' ⟨w.heap.size+1+1,1,none⟩)/\w'.frozen? ⟨w.heap.size+1+1,0,none⟩=false/\w'.frozen? ⟨w.heap.size+1+1,1,none⟩=false)
  (first|with_reducible exact Cm|with_reducible exact hd0|with_reducible exact h00|with_reducible exact Zn.keep (by assumption) (by assumption)|with_reducible exact hd0.keep (by assumption)|exact Zn.set2 (by assumption) (by omega) (by omega) (by omega) _ _)
  (first
    | (go_at_call 76;((with_reducible refine (HN.out _ (by first|exact Zn.below (by assumption)) (by first|exact Zn.big (by assumption))).mono ?_);rintro e w4 ⟨A4,c4,rfl,Pv,hb4⟩;unfold YQ))
    | (go_at_call 73;((with_reducible refine (HD.out _ A4 c4 (by first|exact Zn.below (by assumption)) (by first|exact Zn.big (by assumption)) Pv).mono ?_);rintro e w5 ⟨A5,c5,rfl,UR,hb5⟩;have Cm:=Zn.keep (by assumption) hb5;unfold YQ)))
 all_goals
  go_wp2;exact bodyPost_ret (R2.run (Zn.row Cm) rfl rfl) rfl (XD (Zn.below Cm) (by omega) UR)
theorem Nh(P:Nat->Prop)(a b:Int)(A B:Option Addr)(c d:Nat)(w:World)(ha:ZJ w P a A c)(hb:ZJ w P b B d)(hla:(ZB a.natAbs).length<=1000)(hlb:(ZB b.natAbs).length<=1000)(hP:Up w P):
 Calls prog 81 #[YQ a A c,YQ b B d] w (Ze P (a - b) w) :=
 pR P a b a.sign b.sign _ _ A B c d w ha hb rfl rfl hla hlb hP
end
end Go.Proofs.YthnenedoblncjaaGreatDoor