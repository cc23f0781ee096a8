/- Diff2 Orient -/
import Derived.Deep.RegionHeld3
import Derived.Test.YthnenedoblncjaaGreatDoorPkN08
set_option maxRecDepth 1000000
set_option maxHeartbeats 8000000
namespace Go.Proofs.YthnenedoblncjaaGreatDoor
open Go.Proofs.Tryz
section
open Go.RowKit
def Zz(n:Nat)(v:Int)(w:World)(e:Ending)(w':World):Prop :=
 ∃ A c,e=.returned (.slice A n c)/\Below w.heap.size w w'/\Sl w' w'.heap.size A (ZP (ZX n v))
theorem XA.n{n:Nat}{v:Int}{w w':World}{e:Ending}(h:XA (ZX n v) w e w'):Zz n v w e w':=by
 obtain ⟨A,c,h1,h2,h3⟩:=h;exact ⟨A,c,by rw [h1,Z0],h2,h3⟩
theorem YE{P:Program}{f:FuncId}{args:Array Value}{n:Nat}{v:Int}{w:World}(h:Calls P f args w (XA (ZX n v) w)):Calls P f args w (Zz n v w):=h.mono fun _ _ h=>h.n
def Mf(x:Int):Prop:=-9223372036854775808<=x/\x<9223372036854775808
theorem Q6(a b:Int)(ha:Mf a)(hb:Mf b)(w:World):Calls prog 297 #[.int .i64 a,.int .i64 b] w (XA (ZX 2 (a - b)) w):=by
 have FA:=SA a ha.1 ha.2 2 (by omega) (by omega) w;have FB:∀ w1,Calls prog 251 #[.int .i64 b,.int .i64 2] w1 (XA (ZX 2 b) w1):=fun w1=>SA b hb.1 hb.2 2 (by omega) (by omega) w1;have dV:=hide FA;have dW:=hide FB;clear FA FB ha hb;go_enter func297,ntmps297;go_wp2_with fail;refine dV.out.mono ?_;rintro e w1 ⟨A1,c1,rfl,hb1,hs1⟩;rw [Z0];go_wp2_with fail;refine (dW.out w1).mono ?_;rintro e w2 ⟨A2,c2,rfl,hb2,hs2⟩;rw [Z0];have SB:=Ta 2 a b (by omega) (by omega) A1 A2 c1 c2 w2 ((hs1.below hb2).more hb2.size) hs2;have xV:=hide SB;clear SB hs1 hs2;go_wp2_with fail;refine xV.out.mono ?_;rintro e w3 ⟨A3,c3,rfl,hb3,hs3⟩;go_wp2;go_ret;exact ⟨A3,c3,rfl,Z8 (Z8 hb1 hb2) hb3,hs3⟩
def Yv(A:Option Addr)(c:Nat)(A':Option Addr)(c':Nat):Value:=.agg #[.slice A 2 c,.slice A' 2 c']
def Cm(x y:Int)(w:World)(e:Ending)(w':World):Prop :=
 ∃ A c A' c',e=.returned (Yv A c A' c')/\Below w.heap.size w w'/\Sl w' w'.heap.size A (ZP (ZX 2 x))/\Sl w' w'.heap.size A' (ZP (ZX 2 y))
def Li(w0 w':World)(b1 b2 g:Nat)(v1 v2 v3 v4:Value):Prop :=
 Below w0.heap.size w0 w'/\w'.cell? ⟨b1,0,none⟩=some v1/\w'.cell? ⟨b1,1,none⟩=some v2/\w'.cell? ⟨b2,0,none⟩=some v3/\w'.cell? ⟨b2,1,none⟩=some v4/\w'.cell? ⟨g,0,none⟩=some (.slice none 0 0)/\w'.cell? ⟨g,1,none⟩=some (.slice none 0 0)/\w'.frozen? ⟨g,0,none⟩=false/\w'.frozen? ⟨g,1,none⟩=false
theorem Li.keep{w0 wk w':World}{b1 b2 g:Nat}{v1 v2 v3 v4:Value}(h:Li w0 wk b1 b2 g v1 v2 v3 v4)(hb:Below wk.heap.size wk w'):Li w0 w' b1 b2 g v1 v2 v3 v4:=by
 have on:∀ {b o:Nat} {v:Value},wk.cell? ⟨b,o,none⟩=some v->w'.cell? ⟨b,o,none⟩=some v:=fun h=>(hb.cell (p:=⟨_,_,none⟩) (ZG h)).trans h;obtain ⟨h0,h1,h2,h3,h4,h5,h6,h7,h8⟩:=h;exact ⟨Z8 h0 hb,on h1,on h2,on h3,on h4,on h5,on h6,(hb.frozen (p:=⟨g,0,none⟩) (ZG h5)).trans h7,(hb.frozen (p:=⟨g,1,none⟩) (ZG h6)).trans h8⟩
theorem FJ {w:World} {B g:Nat} {A:Option Addr} {l:List Int} {x:Addr} {t:TypeId} {B1 B2:Option Addr} {n1 n2 k1 k2:Nat} (h:Sl w B A (ZP l)) (hl:0<l.length) (hA:A=some x)
 (hb:Z6 w g t #[.slice B1 n1 k1,.slice B2 n2 k2]):x.block≠g:=by
 rintro rfl;obtain ⟨b,off,hA',_,hc⟩:=h.u hl;rw [hA'] at hA;cases hA;obtain ⟨y,hy⟩:∃ y,l[0]?=some y:=⟨_,List.getElem?_eq_getElem hl⟩;have c0:=hc 0 y hy;have hcell:=cell_of_row w b (off+0) _ t (0,0) hb;rw [c0] at hcell;generalize off+0=i at hcell
 match i,hcell with
 | 0,h=>simp at h
 | 1,h=>simp at h
 | i+2,h=>simp at h
theorem Ko {w w0 w1 w2:World} {g:Nat} {t:TypeId} {A1 A2:Option Addr} {c1 c2:Nat} {x y:Int} (hb0:Below w.heap.size w w0) (hg:w.heap.size<=g) (hb1:Below w0.heap.size w0.drew w1) (hb2:Below w1.heap.size w1 w2)
 (RV:Z6 w0 g t #[.slice none 0 0,.slice none 0 0]) (hs1:Sl w1 w1.heap.size A1 (ZP (ZX 2 x))) (hs2:Sl w2 w2.heap.size A2 (ZP (ZX 2 y))) :
 (w2.setCell ⟨g,0,none⟩ (.slice A1 2 c1)).cell? ⟨g,0,none⟩=some (.slice A1 2 c1)/\((w2.setCell ⟨g,0,none⟩ (.slice A1 2 c1)).setCell ⟨g,1,none⟩ (.slice A2 2 c2)).cell? ⟨g,1,none⟩=some (.slice A2 2 c2) /\
 Cm x y w (.returned (Yv A1 c1 A2 c2)) ((w2.setCell ⟨g,0,none⟩ (.slice A1 2 c1)).setCell ⟨g,1,none⟩ (.slice A2 2 c2)):=by
 have R1:Z6 w1 g t #[.slice none 0 0,.slice none 0 0]:=(RV.drew).below hb1 RV.lt;have R2:=R1.step hb2;have hl1:0<(ZX 2 x).length:=by rw [Z0];omega
 have hl2:0<(ZX 2 y).length:=by rw [Z0];omega
 have SL:=(hs1.below hb2).more hb2.size;have f1:=(SL.far (p:=⟨g,0,none⟩) (fun _ z hz=>FJ SL hl1 hz R2) (.slice A1 2 c1)).far (p:=⟨g,1,none⟩) (fun _ z hz=>FJ SL hl1 hz R2) (.slice A2 2 c2);have f2:=(hs2.far (p:=⟨g,0,none⟩) (fun _ z hz=>FJ hs2 hl2 hz R2) (.slice A1 2 c1)).far (p:=⟨g,1,none⟩) (fun _ z hz=>FJ hs2 hl2 hz R2) (.slice A2 2 c2);refine ⟨(R2.set 0 _).q0 rfl,((R2.set 0 (.slice A1 2 c1)).set 1 _).q1 rfl,A1,c1,A2,c2,rfl,?_,?_,?_⟩
 · exact ((Z8 (Z8 hb0 (Xu hb1)) hb2).setCell hg _).setCell hg _
 · simpa [World.size_setCell] using f1
 · simpa [World.size_setCell] using f2
theorem Yj(ax ay bx Lu:Int)(h1:Mf ax)(h2:Mf ay)(h3:Mf bx)(h4:Mf Lu)(w:World):
 Calls prog 250 #[.agg #[.int .i64 ax,.int .i64 ay],.agg #[.int .i64 bx,.int .i64 Lu]] w (Cm (bx - ax) (Lu - ay) w):=by
 obtain ⟨w0,hw0⟩:=eE (((w.alloc (.cells #[.int .i64 ax,.int .i64 ay] 41)).alloc (.cells #[.int .i64 bx,.int .i64 Lu] 41)).alloc (.cells #[.slice none 0 0,.slice none 0 0] 284));have hb0:Below w.heap.size w w0:=by rw [hw0];exact ZY (ZY (bA) _) _
 have PA:Z6 w0 w.heap.size 41 #[.int .i64 ax,.int .i64 ay]:=by rw [hw0];exact ((Z6.new _ _ _).alloc _).alloc _
 have PB:Z6 w0 (w.heap.size+1) 41 #[.int .i64 bx,.int .i64 Lu]:=by rw [hw0];exact (Z6.new2 _ _ _ _).alloc _
 have RV:Z6 w0 (w.heap.size+1+1) 284 #[.slice none 0 0,.slice none 0 0]:=by
  rw [hw0];have h:=Z6.new ((w.alloc (.cells #[.int .i64 ax,.int .i64 ay] 41)).alloc (.cells #[.int .i64 bx,.int .i64 Lu] 41)) 284 #[.slice none 0 0,.slice none 0 0];simpa using h
 have a0:=PA.q0 rfl;have a1:=PA.q1 rfl;have b0:=PB.q0 rfl;have b1:=PB.q1 rfl;have Dw:=hide (fun wk=>YE (Q6 bx ax h3 h1 wk));have Gb:=hide (fun wk=>YE (Q6 Lu ay h4 h2 wk));clear h1 h2 h3 h4;go_enter func250,ntmps250;go_wp2;rw [<- hw0];have HW0:=hide hw0;clear hw0;have r0:=RV.q0 rfl;have r1:=RV.q1 rfl;have f0:=RV.frozen 0;have f1:=RV.frozen 1;have h00:Li w0 w0 w.heap.size (w.heap.size+1) (w.heap.size+1+1) (.int .i64 ax) (.int .i64 ay) (.int .i64 bx) (.int .i64 Lu):=⟨Below.refl _ _,a0,a1,b0,b1,r0,r1,f0,f1⟩;have hd0:=h00.keep (ZV (Below.refl _ _))
 go_region_law (first
  | (go_simp;go_at_call 297;(with_reducible refine (Dw.out _).mono ?_);rintro e w1 ⟨A1,c1,rfl,hb1,hs1⟩;obtain ⟨-,x0,x1,x2,x3,x4,x5,x6,x7⟩:=hd0.keep hb1)
  | (go_simp;go_at_call 297;(with_reducible refine (Gb.out _).mono ?_);rintro e w2 ⟨A2,c2,rfl,hb2,hs2⟩;obtain ⟨-,x0,x1,x2,x3,x4,x5,x6,x7⟩:=(hd0.keep hb1).keep hb2))
 all_goals
  obtain ⟨e0,e1,hfin⟩:=Ko (c1:=c1) (c2:=c2) hb0 (show w.heap.size<=w.heap.size+1+1 by omega) hb1 hb2 RV hs1 hs2;clear x0 x1 x2 x3 x4 x5 x6 x7;go_wp2;exact bodyPost_ret (v:=.agg #[.slice A1 2 c1,.slice A2 2 c2]) (by simp [results,Tryz.results250,go_sem,e0,e1]) rfl hfin
theorem UH {w0 wk w':World} {b1 o1 b2 o2 b3 o3 b4 o4:Nat} {v1 v2 v3 v4:Value} (hb:Below wk.heap.size wk w')
 (h:Below w0.heap.size w0 wk/\wk.cell? ⟨b1,o1,none⟩=some v1/\wk.cell? ⟨b2,o2,none⟩=some v2/\wk.cell? ⟨b3,o3,none⟩=some v3/\wk.cell? ⟨b4,o4,none⟩=some v4) :
 Below w0.heap.size w0 w'/\w'.cell? ⟨b1,o1,none⟩=some v1/\w'.cell? ⟨b2,o2,none⟩=some v2/\w'.cell? ⟨b3,o3,none⟩=some v3/\w'.cell? ⟨b4,o4,none⟩=some v4 :=
 have on:∀ {b o:Nat} {v:Value},wk.cell? ⟨b,o,none⟩=some v->w'.cell? ⟨b,o,none⟩=some v:=fun h=>(hb.cell (p:=⟨_,_,none⟩) (ZG h)).trans h
 ⟨Z8 h.1 hb,on h.2.1,on h.2.2.1,on h.2.2.2.1,on h.2.2.2.2⟩
theorem NV(A A':Option Addr)(c c':Nat)(w:World):Calls prog 295 #[Yv A c A' c'] w fun e w'=>e=.returned (Yv A' c' A c)/\Below w.heap.size w w':=by
 unfold Yv;obtain ⟨w0,hw0⟩:=eE ((w.alloc (.cells #[.slice A 2 c,.slice A' 2 c'] 284)).alloc (.cells #[.slice A' 2 c',.slice A 2 c] 284));have hb0:=bF hw0;have R0:Z6 w0 (w.heap.size+1) 284 #[.slice A' 2 c',.slice A 2 c]:=by rw [hw0];exact Z6.new2 _ _ _ _
 have e0:=R0.q0 rfl;have e1:=R0.q1 rfl;go_enter func295,ntmps295;go_wp2;rw [<- hw0];exact bodyPost_ret (v:=.agg #[.slice A' 2 c',.slice A 2 c]) (by simp [results,Tryz.results295,go_sem,e0,e1]) rfl ⟨rfl,hb0⟩
theorem Ja(A A':Option Addr)(c c':Nat)(w:World):Calls prog 335 #[Yv A c A' c'] w fun e w'=>e=.returned (Yv A c A' c')/\Below w.heap.size w w':=by
 unfold Yv;obtain ⟨w0,hw0⟩:=eE ((w.alloc (.cells #[.slice A 2 c,.slice A' 2 c'] 284)).alloc (.cells #[.slice A 2 c,.slice A' 2 c'] 284));have hb0:=bF hw0;have R0:Z6 w0 (w.heap.size+1) 284 #[.slice A 2 c,.slice A' 2 c']:=by rw [hw0];exact Z6.new2 _ _ _ _
 have e0:=R0.q0 rfl;have e1:=R0.q1 rfl;go_enter func335,ntmps335;go_wp2;rw [<- hw0];exact bodyPost_ret (v:=.agg #[.slice A 2 c,.slice A' 2 c']) (by simp [results,Tryz.results335,go_sem,e0,e1]) rfl ⟨rfl,hb0⟩
theorem Oz(A1 A2 A3 A4:Option Addr)(c1 c2 c3 c4:Nat)(g:Nat)(w:World)(hb:Z6 w g 284 #[.slice A1 2 c1,.slice A2 2 c2,.slice A3 2 c3,.slice A4 2 c4]):
 Calls prog 334 #[.slice (some ⟨g,0,none⟩) 2 2] w fun e w'=>e=.returned (.bool true)/\Below w.heap.size w w':=by
 have HB:=hide hb;go_enter func334,ntmps334;go_wp2
 go_loopw [7] (fun i wr=>∃ k:Nat,k<=2/\i=.int .i64 k/\Below w.heap.size w wr)
  (fun i _=>2 - (intOf i).toNat)
 case atStart=>exact ⟨0,by omega,rfl,Below.refl _ _⟩
 case round =>
  obtain ⟨k,hk,rfl,hbr⟩:=hrel;have Br:=HB.out.step hbr
  by_cases h0:k=0
  · subst h0;have c0:=Br.q0 rfl;have c1:=Br.q1 rfl;go_wp2;go_roundw
    case rel=>exact ⟨1,by omega,rfl,ZY hbr _⟩
    case measure=>simp [intOf]
  · by_cases h1:k=1
    · subst h1;have c0:=Br.q2 rfl;have c1:=Br.q3 rfl;go_wp2;go_roundw
      case rel=>exact ⟨2,by omega,rfl,ZY hbr _⟩
      case measure=>simp [intOf]
    · obtain rfl:k=2:=(by omega);go_wp2;go_ret;exact ⟨rfl,hbr⟩
theorem MF(x y:Int)(A A':Option Addr)(c c':Nat)(w:World)(h1:Sl w w.heap.size A (ZP (ZX 4 x)))(h2:Sl w w.heap.size A' (ZP (ZX 4 y))):
 Calls prog 296 #[.slice A 4 c,.slice A' 4 c'] w (Zz 4 (x - y) w):=by
 have HS:=hide (YE (Ta 4 x y (by omega) (by omega) A A' c c' w h1 h2));clear h1 h2;go_enter func296,ntmps296;go_wp2_with fail;refine HS.out.mono ?_;rintro e w1 ⟨A1,c1,rfl,hb1,h1⟩;go_wp2;go_ret;exact ⟨A1,c1,rfl,hb1,h1⟩
theorem Nv (ux uy vx vy:Int) (fx:Fits 2 ux) (fy:Fits 2 uy) (gx:Fits 2 vx) (gy:Fits 2 vy) (A1 A2 A3 A4:Option Addr) (c1 c2 c3 c4:Nat) (w:World)
 (h1:Sl w w.heap.size A1 (ZP (ZX 2 ux))) (h2:Sl w w.heap.size A2 (ZP (ZX 2 uy))) (h3:Sl w w.heap.size A3 (ZP (ZX 2 vx))) (h4:Sl w w.heap.size A4 (ZP (ZX 2 vy))) :
 Calls prog 294 #[.agg #[.slice A1 2 c1,.slice A2 2 c2],.agg #[.slice A3 2 c3,.slice A4 2 c4],.func (.func 295) #[] #[],.func (.func 296) #[] #[]] w (Zz 4 (ux*vy - uy*vx) w):=by
 obtain ⟨w0,hw0⟩:=eE (((w.alloc (.cells #[.slice A1 2 c1,.slice A2 2 c2] 284)).alloc (.cells #[.slice A3 2 c3,.slice A4 2 c4] 284)).alloc (.cells #[.slice A1 2 c1,.slice A2 2 c2,.slice A3 2 c3,.slice A4 2 c4] 284));have hb0:Below w.heap.size w w0:=by rw [hw0];exact ZY (ZY (bA) _) _
 have U0:Z6 w0 w.heap.size 284 #[.slice A1 2 c1,.slice A2 2 c2]:=by rw [hw0];exact ((Z6.new _ _ _).alloc _).alloc _
 have V0:Z6 w0 (w.heap.size+1) 284 #[.slice A3 2 c3,.slice A4 2 c4]:=by rw [hw0];exact (Z6.new2 _ _ _ _).alloc _
 have S0:Z6 w0 (w.heap.size+1+1) 284 #[.slice A1 2 c1,.slice A2 2 c2,.slice A3 2 c3,.slice A4 2 c4]:=by
  rw [hw0];have h:=Z6.new ((w.alloc (.cells #[.slice A1 2 c1,.slice A2 2 c2] 284)).alloc (.cells #[.slice A3 2 c3,.slice A4 2 c4] 284)) 284 #[.slice A1 2 c1,.slice A2 2 c2,.slice A3 2 c3,.slice A4 2 c4];simpa using h
 have M1:∀ wk,Below w.heap.size w wk->Calls prog 254 #[.slice A1 2 c1,.slice A4 2 c4] wk (Zz 4 (ux*vy) wk):=fun wk hk=>YE (Wo 2 2 ux vy (by omega) (by omega) (by omega) fx gy A1 A4 c1 c4 wk ((h1.below hk).more hk.size) ((h4.below hk).more hk.size));have M2:∀ wk,Below w.heap.size w wk->Calls prog 254 #[.slice A2 2 c2,.slice A3 2 c3] wk (Zz 4 (uy*vx) wk):=fun wk hk=>YE (Wo 2 2 uy vx (by omega) (by omega) (by omega) fy gx A2 A3 c2 c3 wk ((h2.below hk).more hk.size) ((h3.below hk).more hk.size));have HIS:=hide (Oz A1 A2 A3 A4 c1 c2 c3 c4 _ w0 S0);have rG:=hide M1;have mJ:=hide M2;clear M1 M2 h1 h2 h3 h4 fx fy gx gy;go_enter func294,ntmps294;go_wp2_with fail;rw [<- hw0];have HW0:=hide hw0;clear hw0;refine HIS.out.mono ?_;rintro e w1 ⟨rfl,hb1⟩;have V1:=V0.step hb1;have v0:=V1.q0 rfl;have v1:=V1.q1 rfl;have lZ:Hid (Calls prog 295 #[.agg #[.slice A3 2 c3,.slice A4 2 c4]] w1 fun e w'=>e=.returned (.agg #[.slice A4 2 c4,.slice A3 2 c3])/\Below w1.heap.size w1 w'):=hide (NV A3 A4 c3 c4 w1);go_wp2_with fail;refine lZ.out.mono ?_;rintro e w2 ⟨rfl,hb2⟩;obtain ⟨w3,hw3⟩:=eE (w2.alloc (.cells #[.slice A4 2 c4,.slice A3 2 c3] 284));have hb3:=bE hw3;have W3:Z6 w3 w2.heap.size 284 #[.slice A4 2 c4,.slice A3 2 c3]:=by rw [hw3];exact Z6.new _ _ _
 have U3:=((U0.step hb1).step hb2).step hb3;have HB3:=Z8 (Z8 (Z8 hb0 hb1) hb2) hb3;clear v0 v1;go_wp2;rw [<- hw3];have HW3:=hide hw3;clear hw3;have u0:=U3.q0 rfl;have u1:=U3.q1 rfl;have x0:=W3.q0 rfl;have x1:=W3.q1 rfl;have hS0:(fun w':World=>Below w3.heap.size w3 w'/\w'.cell? ⟨w.heap.size,0,none⟩=some (.slice A1 2 c1)/\w'.cell? ⟨w.heap.size,1,none⟩=some (.slice A2 2 c2)/\w'.cell? ⟨w2.heap.size,0,none⟩=some (.slice A4 2 c4)/\w'.cell? ⟨w2.heap.size,1,none⟩=some (.slice A3 2 c3)) w3:=⟨Below.refl _ _,u0,u1,x0,x1⟩;have hSd:(fun w':World=>Below w3.heap.size w3 w'/\w'.cell? ⟨w.heap.size,0,none⟩=some (.slice A1 2 c1)/\w'.cell? ⟨w.heap.size,1,none⟩=some (.slice A2 2 c2)/\w'.cell? ⟨w2.heap.size,0,none⟩=some (.slice A4 2 c4)/\w'.cell? ⟨w2.heap.size,1,none⟩=some (.slice A3 2 c3)) w3.drew:=UH (ZV (Below.refl _ _)) hS0;have N1:Hid (∀ w',(Below w3.heap.size w3 w'/\w'.cell? ⟨w.heap.size,0,none⟩=some (.slice A1 2 c1)/\w'.cell? ⟨w.heap.size,1,none⟩=some (.slice A2 2 c2)/\w'.cell? ⟨w2.heap.size,0,none⟩=some (.slice A4 2 c4)/\w'.cell? ⟨w2.heap.size,1,none⟩=some (.slice A3 2 c3))->Calls prog 254 #[.slice A1 2 c1,.slice A4 2 c4] w' (Zz 4 (ux*vy) w')):=hide fun wk h=>rG.out wk (Z8 HB3 h.1);have N2:Hid (∀ w',(Below w3.heap.size w3 w'/\w'.cell? ⟨w.heap.size,0,none⟩=some (.slice A1 2 c1)/\w'.cell? ⟨w.heap.size,1,none⟩=some (.slice A2 2 c2)/\w'.cell? ⟨w2.heap.size,0,none⟩=some (.slice A4 2 c4)/\w'.cell? ⟨w2.heap.size,1,none⟩=some (.slice A3 2 c3))->Calls prog 254 #[.slice A2 2 c2,.slice A3 2 c3] w' (Zz 4 (uy*vx) w')):=hide fun wk h=>mJ.out wk (Z8 HB3 h.1)
 go_region_held3 (fun w'=>Below w3.heap.size w3 w'/\w'.cell? ⟨w.heap.size,0,none⟩=some (.slice A1 2 c1)/\w'.cell? ⟨w.heap.size,1,none⟩=some (.slice A2 2 c2)/\w'.cell? ⟨w2.heap.size,0,none⟩=some (.slice A4 2 c4)/\w'.cell? ⟨w2.heap.size,1,none⟩=some (.slice A3 2 c3))
  (first|exact hSd|exact hS0|exact UH (by assumption) (by assumption)|exact UH (by assumption) hSd)
  (first
    | (go_at_call 254;((with_reducible refine (N1.out _ (by assumption)).mono ?_);rintro e w' ⟨A5,c5,rfl,hb4,hs4⟩))
    | (go_at_call 254;((with_reducible refine (N1.out _ hSd).mono ?_);rintro e w' ⟨A5,c5,rfl,hb4,hs4⟩))
    | (go_at_call 254;((with_reducible refine (N2.out _ (by assumption)).mono ?_);rintro e w' ⟨A6,c6,rfl,hb5,hs5⟩))
    | (go_at_call 296;((with_reducible refine (MF _ _ _ _ _ _ _ ((hs4.below hb5).more hb5.size) hs5).mono ?_);rintro e w' ⟨A7,c7,rfl,hb6,hs6⟩)))
 all_goals
  go_wp2;go_ret;exact ⟨A7,c7,rfl,Z8 (Z8 (Z8 (ZV HB3) hb4) hb5) hb6,hs6⟩
theorem Q7 (ux uy vx vy:Int) (fx:Fits 2 ux) (fy:Fits 2 uy) (gx:Fits 2 vx) (gy:Fits 2 vy) (A1 A2 A3 A4:Option Addr) (c1 c2 c3 c4:Nat) (w:World)
 (h1:Sl w w.heap.size A1 (ZP (ZX 2 ux))) (h2:Sl w w.heap.size A2 (ZP (ZX 2 uy))) (h3:Sl w w.heap.size A3 (ZP (ZX 2 vx))) (h4:Sl w w.heap.size A4 (ZP (ZX 2 vy))) :
 Calls prog 249 #[.agg #[.slice A1 2 c1,.slice A2 2 c2],.agg #[.slice A3 2 c3,.slice A4 2 c4]] w (Zz 4 (ux*vy - uy*vx) w):=by
 obtain ⟨w0,hw0⟩:=eE ((w.alloc (.cells #[.slice A1 2 c1,.slice A2 2 c2] 284)).alloc (.cells #[.slice A3 2 c3,.slice A4 2 c4] 284));have hb0:=bF hw0;have hz:=hb0.size;have HP:=hide (Nv ux uy vx vy fx fy gx gy A1 A2 A3 A4 c1 c2 c3 c4 w0 ((h1.below hb0).more hz) ((h2.below hb0).more hz) ((h3.below hb0).more hz) ((h4.below hb0).more hz));clear h1 h2 h3 h4 fx fy gx gy;go_enter func249,ntmps249;go_wp2_with fail;rw [<- hw0];have HW0:=hide hw0;clear hw0;refine HP.out.mono ?_;rintro e w1 ⟨A5,c5,rfl,hb1,hs⟩;go_wp2;go_ret;exact ⟨A5,c5,rfl,Z8 hb0 hb1,hs⟩
theorem GU(x y:Int)(A A':Option Addr)(c c':Nat)(w:World)(h1:Sl w w.heap.size A (ZP (ZX 4 x)))(h2:Sl w w.heap.size A' (ZP (ZX 4 y))):
 Calls prog 336 #[.slice A 4 c,.slice A' 4 c'] w (Zz 4 (x+y) w):=by
 have HS:=hide (YE (Ph 4 x y (by omega) (by omega) A A' c c' w h1 h2));clear h1 h2;go_enter func336,ntmps336;go_wp2_with fail;refine HS.out.mono ?_;rintro e w1 ⟨A1,c1,rfl,hb1,h1⟩;go_wp2;go_ret;exact ⟨A1,c1,rfl,hb1,h1⟩
theorem IY (ux uy vx vy:Int) (fx:Fits 2 ux) (fy:Fits 2 uy) (gx:Fits 2 vx) (gy:Fits 2 vy) (A1 A2 A3 A4:Option Addr) (c1 c2 c3 c4:Nat) (w:World)
 (h1:Sl w w.heap.size A1 (ZP (ZX 2 ux))) (h2:Sl w w.heap.size A2 (ZP (ZX 2 uy))) (h3:Sl w w.heap.size A3 (ZP (ZX 2 vx))) (h4:Sl w w.heap.size A4 (ZP (ZX 2 vy))) :
 Calls prog 294 #[.agg #[.slice A1 2 c1,.slice A2 2 c2],.agg #[.slice A3 2 c3,.slice A4 2 c4],.func (.func 335) #[] #[],.func (.func 336) #[] #[]] w (Zz 4 (ux*vx+uy*vy) w):=by
 obtain ⟨w0,hw0⟩:=eE (((w.alloc (.cells #[.slice A1 2 c1,.slice A2 2 c2] 284)).alloc (.cells #[.slice A3 2 c3,.slice A4 2 c4] 284)).alloc (.cells #[.slice A1 2 c1,.slice A2 2 c2,.slice A3 2 c3,.slice A4 2 c4] 284));have hb0:Below w.heap.size w w0:=by rw [hw0];exact ZY (ZY (bA) _) _
 have U0:Z6 w0 w.heap.size 284 #[.slice A1 2 c1,.slice A2 2 c2]:=by rw [hw0];exact ((Z6.new _ _ _).alloc _).alloc _
 have V0:Z6 w0 (w.heap.size+1) 284 #[.slice A3 2 c3,.slice A4 2 c4]:=by rw [hw0];exact (Z6.new2 _ _ _ _).alloc _
 have S0:Z6 w0 (w.heap.size+1+1) 284 #[.slice A1 2 c1,.slice A2 2 c2,.slice A3 2 c3,.slice A4 2 c4]:=by
  rw [hw0];have h:=Z6.new ((w.alloc (.cells #[.slice A1 2 c1,.slice A2 2 c2] 284)).alloc (.cells #[.slice A3 2 c3,.slice A4 2 c4] 284)) 284 #[.slice A1 2 c1,.slice A2 2 c2,.slice A3 2 c3,.slice A4 2 c4];simpa using h
 have M1:∀ wk,Below w.heap.size w wk->Calls prog 254 #[.slice A1 2 c1,.slice A3 2 c3] wk (Zz 4 (ux*vx) wk):=fun wk hk=>YE (Wo 2 2 ux vx (by omega) (by omega) (by omega) fx gx A1 A3 c1 c3 wk ((h1.below hk).more hk.size) ((h3.below hk).more hk.size));have M2:∀ wk,Below w.heap.size w wk->Calls prog 254 #[.slice A2 2 c2,.slice A4 2 c4] wk (Zz 4 (uy*vy) wk):=fun wk hk=>YE (Wo 2 2 uy vy (by omega) (by omega) (by omega) fy gy A2 A4 c2 c4 wk ((h2.below hk).more hk.size) ((h4.below hk).more hk.size));have HIS:=hide (Oz A1 A2 A3 A4 c1 c2 c3 c4 _ w0 S0);have rG:=hide M1;have mJ:=hide M2;clear M1 M2 h1 h2 h3 h4 fx fy gx gy;go_enter func294,ntmps294;go_wp2_with fail;rw [<- hw0];have HW0:=hide hw0;clear hw0;refine HIS.out.mono ?_;rintro e w1 ⟨rfl,hb1⟩;have V1:=V0.step hb1;have v0:=V1.q0 rfl;have v1:=V1.q1 rfl;have lZ:Hid (Calls prog 335 #[.agg #[.slice A3 2 c3,.slice A4 2 c4]] w1 fun e w'=>e=.returned (.agg #[.slice A3 2 c3,.slice A4 2 c4])/\Below w1.heap.size w1 w'):=hide (Ja A3 A4 c3 c4 w1);go_wp2_with fail;refine lZ.out.mono ?_;rintro e w2 ⟨rfl,hb2⟩;obtain ⟨w3,hw3⟩:=eE (w2.alloc (.cells #[.slice A3 2 c3,.slice A4 2 c4] 284));have hb3:=bE hw3;have W3:Z6 w3 w2.heap.size 284 #[.slice A3 2 c3,.slice A4 2 c4]:=by rw [hw3];exact Z6.new _ _ _
 have U3:=((U0.step hb1).step hb2).step hb3;have HB3:=Z8 (Z8 (Z8 hb0 hb1) hb2) hb3;clear v0 v1;go_wp2;rw [<- hw3];have HW3:=hide hw3;clear hw3;have u0:=U3.q0 rfl;have u1:=U3.q1 rfl;have x0:=W3.q0 rfl;have x1:=W3.q1 rfl;have hS0:(fun w':World=>Below w3.heap.size w3 w'/\w'.cell? ⟨w.heap.size,0,none⟩=some (.slice A1 2 c1)/\w'.cell? ⟨w.heap.size,1,none⟩=some (.slice A2 2 c2)/\w'.cell? ⟨w2.heap.size,0,none⟩=some (.slice A3 2 c3)/\w'.cell? ⟨w2.heap.size,1,none⟩=some (.slice A4 2 c4)) w3:=⟨Below.refl _ _,u0,u1,x0,x1⟩;have hSd:(fun w':World=>Below w3.heap.size w3 w'/\w'.cell? ⟨w.heap.size,0,none⟩=some (.slice A1 2 c1)/\w'.cell? ⟨w.heap.size,1,none⟩=some (.slice A2 2 c2)/\w'.cell? ⟨w2.heap.size,0,none⟩=some (.slice A3 2 c3)/\w'.cell? ⟨w2.heap.size,1,none⟩=some (.slice A4 2 c4)) w3.drew:=UH (ZV (Below.refl _ _)) hS0;have N1:Hid (∀ w',(Below w3.heap.size w3 w'/\w'.cell? ⟨w.heap.size,0,none⟩=some (.slice A1 2 c1)/\w'.cell? ⟨w.heap.size,1,none⟩=some (.slice A2 2 c2)/\w'.cell? ⟨w2.heap.size,0,none⟩=some (.slice A3 2 c3)/\w'.cell? ⟨w2.heap.size,1,none⟩=some (.slice A4 2 c4))->Calls prog 254 #[.slice A1 2 c1,.slice A3 2 c3] w' (Zz 4 (ux*vx) w')):=hide fun wk h=>rG.out wk (Z8 HB3 h.1);have N2:Hid (∀ w',(Below w3.heap.size w3 w'/\w'.cell? ⟨w.heap.size,0,none⟩=some (.slice A1 2 c1)/\w'.cell? ⟨w.heap.size,1,none⟩=some (.slice A2 2 c2)/\w'.cell? ⟨w2.heap.size,0,none⟩=some (.slice A3 2 c3)/\w'.cell? ⟨w2.heap.size,1,none⟩=some (.slice A4 2 c4))->Calls prog 254 #[.slice A2 2 c2,.slice A4 2 c4] w' (Zz 4 (uy*vy) w')):=hide fun wk h=>mJ.out wk (Z8 HB3 h.1)
 go_region_held3 (fun w'=>Below w3.heap.size w3 w'/\w'.cell? ⟨w.heap.size,0,none⟩=some (.slice A1 2 c1)/\w'.cell? ⟨w.heap.size,1,none⟩=some (.slice A2 2 c2)/\w'.cell? ⟨w2.heap.size,0,none⟩=some (.slice A3 2 c3)/\w'.cell? ⟨w2.heap.size,1,none⟩=some (.slice A4 2 c4))
  (first|exact hSd|exact hS0|exact UH (by assumption) (by assumption)|exact UH (by assumption) hSd)
  (first
    | (go_at_call 254;((with_reducible refine (N1.out _ (by assumption)).mono ?_);rintro e w' ⟨A5,c5,rfl,hb4,hs4⟩))
    | (go_at_call 254;((with_reducible refine (N1.out _ hSd).mono ?_);rintro e w' ⟨A5,c5,rfl,hb4,hs4⟩))
    | (go_at_call 254;((with_reducible refine (N2.out _ (by assumption)).mono ?_);rintro e w' ⟨A6,c6,rfl,hb5,hs5⟩))
    | (go_at_call 336;((with_reducible refine (GU _ _ _ _ _ _ _ ((hs4.below hb5).more hb5.size) hs5).mono ?_);rintro e w' ⟨A7,c7,rfl,hb6,hs6⟩)))
 all_goals
  go_wp2;go_ret;exact ⟨A7,c7,rfl,Z8 (Z8 (Z8 (ZV HB3) hb4) hb5) hb6,hs6⟩
theorem D5 (ux uy vx vy:Int) (fx:Fits 2 ux) (fy:Fits 2 uy) (gx:Fits 2 vx) (gy:Fits 2 vy) (A1 A2 A3 A4:Option Addr) (c1 c2 c3 c4:Nat) (w:World)
 (h1:Sl w w.heap.size A1 (ZP (ZX 2 ux))) (h2:Sl w w.heap.size A2 (ZP (ZX 2 uy))) (h3:Sl w w.heap.size A3 (ZP (ZX 2 vx))) (h4:Sl w w.heap.size A4 (ZP (ZX 2 vy))) :
 Calls prog 298 #[.agg #[.slice A1 2 c1,.slice A2 2 c2],.agg #[.slice A3 2 c3,.slice A4 2 c4]] w (Zz 4 (ux*vx+uy*vy) w):=by
 obtain ⟨w0,hw0⟩:=eE ((w.alloc (.cells #[.slice A1 2 c1,.slice A2 2 c2] 284)).alloc (.cells #[.slice A3 2 c3,.slice A4 2 c4] 284));have hb0:=bF hw0;have hz:=hb0.size;have HP:=hide (IY ux uy vx vy fx fy gx gy A1 A2 A3 A4 c1 c2 c3 c4 w0 ((h1.below hb0).more hz) ((h2.below hb0).more hz) ((h3.below hb0).more hz) ((h4.below hb0).more hz));clear h1 h2 h3 h4 fx fy gx gy;go_enter func298,ntmps298;go_wp2_with fail;rw [<- hw0];have HW0:=hide hw0;clear hw0;refine HP.out.mono ?_;rintro e w1 ⟨A5,c5,rfl,hb1,hs⟩;go_wp2;go_ret;exact ⟨A5,c5,rfl,Z8 hb0 hb1,hs⟩
abbrev Pt:=Int × Int
def PJ(p:Pt):Prop:=Mf p.1/\Mf p.2
def Y6(ux uy vx vy:Int):Int:=ux*vy - uy*vx
def ZL(a b c:Pt):Int:=Y6 (b.1 - a.1) (b.2 - a.2) (c.1 - a.1) (c.2 - a.2)
theorem w2:(18446744073709551616:Int) ^ 2=340282366920938463463374607431768211456:=by decide +kernel
theorem pG:(18446744073709551616:Int) ^ 3=6277101735386680763835789423207666416102355444464034512896:=by decide +kernel
theorem VQ{a b:Int}(ha:Mf a)(hb:Mf b):Fits 2 (a - b):=by
 unfold Mf at ha hb;unfold Fits;rw [w2];omega
theorem Ya{a b M N:Int}(h1:-M<=a)(h2:a<=M)(h3:-N<=b)(h4:b<=N):-(M*N)<=a*b/\a*b<=M*N:=by
 have e1:0<=(M - a)*(N+b):=Int.mul_nonneg (by omega) (by omega);have e2:0<=(M+a)*(N - b):=Int.mul_nonneg (by omega) (by omega);have e3:0<=(M - a)*(N - b):=Int.mul_nonneg (by omega) (by omega);have e4:0<=(M+a)*(N+b):=Int.mul_nonneg (by omega) (by omega);rw [Int.sub_mul,Int.mul_add,Int.mul_add] at e1;rw [Int.add_mul,Int.mul_sub,Int.mul_sub] at e2;rw [Int.sub_mul,Int.mul_sub,Int.mul_sub] at e3;rw [Int.add_mul,Int.mul_add,Int.mul_add] at e4;omega
theorem YH{ux uy vx vy:Int}(h1:-18446744073709551615<=ux/\ux<=18446744073709551615)(h2:-18446744073709551615<=uy/\uy<=18446744073709551615)(h3:-18446744073709551615<=vx/\vx<=18446744073709551615)(h4:-18446744073709551615<=vy/\vy<=18446744073709551615):
 -680564733841876926852962238568698216450<=Y6 ux uy vx vy/\Y6 ux uy vx vy<=680564733841876926852962238568698216450:=by
 have a:=Ya h1.1 h1.2 h4.1 h4.2;have b:=Ya h2.1 h2.2 h3.1 h3.2;unfold Y6;omega
theorem YU{a b:Int}(ha:Mf a)(hb:Mf b):-18446744073709551615<=a - b/\a - b<=18446744073709551615:=by unfold Mf at ha hb;omega
theorem Qr{a b c:Pt}(ha:PJ a)(hb:PJ b)(hc:PJ c):Fits 3 (ZL a b c):=by
 have h:=YH (YU hb.1 ha.1) (YU hb.2 ha.2) (YU hc.1 ha.1) (YU hc.2 ha.2);unfold Fits ZL;rw [pG];omega
def UD(w0:World)(b1 b2 b3:Nat)(x1 y1 x2 y2 x3 y3:Int)(w':World):Prop :=
 Below w0.heap.size w0 w'/\w'.cell? ⟨b1,0,none⟩=some (.int .i64 x1)/\w'.cell? ⟨b1,1,none⟩=some (.int .i64 y1)/\w'.cell? ⟨b2,0,none⟩=some (.int .i64 x2)/\w'.cell? ⟨b2,1,none⟩=some (.int .i64 y2)/\w'.cell? ⟨b3,0,none⟩=some (.int .i64 x3)/\w'.cell? ⟨b3,1,none⟩=some (.int .i64 y3)
theorem UD.keep{w0 wk w':World}{b1 b2 b3:Nat}{x1 y1 x2 y2 x3 y3:Int}(h:UD w0 b1 b2 b3 x1 y1 x2 y2 x3 y3 wk)(hb:Below wk.heap.size wk w'):UD w0 b1 b2 b3 x1 y1 x2 y2 x3 y3 w':=by
 have on:∀ {b o:Nat} {v:Value},wk.cell? ⟨b,o,none⟩=some v->w'.cell? ⟨b,o,none⟩=some v:=fun h=>(hb.cell (p:=⟨_,_,none⟩) (ZG h)).trans h;obtain ⟨h0,h1,h2,h3,h4,h5,h6⟩:=h;exact ⟨Z8 h0 hb,on h1,on h2,on h3,on h4,on h5,on h6⟩
theorem IL(a b c:Pt)(ha:PJ a)(hb:PJ b)(hc:PJ c)(w:World):
 Calls prog 187 #[.agg #[.int .i64 a.1,.int .i64 a.2],.agg #[.int .i64 b.1,.int .i64 b.2],.agg #[.int .i64 c.1,.int .i64 c.2]] w (Zz 3 (ZL a b c) w):=by
 obtain ⟨w0,hw0⟩:=eE (((w.alloc (.cells #[.int .i64 a.1,.int .i64 a.2] 41)).alloc (.cells #[.int .i64 b.1,.int .i64 b.2] 41)).alloc (.cells #[.int .i64 c.1,.int .i64 c.2] 41));have hb0:Below w.heap.size w w0:=by rw [hw0];exact ZY (ZY (bA) _) _
 have PA:Z6 w0 w.heap.size 41 #[.int .i64 a.1,.int .i64 a.2]:=by rw [hw0];exact ((Z6.new _ _ _).alloc _).alloc _
 have PB:Z6 w0 (w.heap.size+1) 41 #[.int .i64 b.1,.int .i64 b.2]:=by rw [hw0];exact (Z6.new2 _ _ _ _).alloc _
 have PC:Z6 w0 (w.heap.size+1+1) 41 #[.int .i64 c.1,.int .i64 c.2]:=by
  rw [hw0];have h:=Z6.new ((w.alloc (.cells #[.int .i64 a.1,.int .i64 a.2] 41)).alloc (.cells #[.int .i64 b.1,.int .i64 b.2] 41)) 41 #[.int .i64 c.1,.int .i64 c.2];simpa using h
 have HB1:=hide (fun wk=>Yj a.1 a.2 b.1 b.2 ha.1 ha.2 hb.1 hb.2 wk);have HB2:=hide (fun wk=>Yj a.1 a.2 c.1 c.2 ha.1 ha.2 hc.1 hc.2 wk)
 have xO:Hid (∀ (A1 A2 A3 A4:Option Addr) (c1 c2 c3 c4:Nat) (wk:World),Sl wk wk.heap.size A1 (ZP (ZX 2 (b.1 - a.1)))->Sl wk wk.heap.size A2 (ZP (ZX 2 (b.2 - a.2)))->Sl wk wk.heap.size A3 (ZP (ZX 2 (c.1 - a.1)))->Sl wk wk.heap.size A4 (ZP (ZX 2 (c.2 - a.2))) ->
  Calls prog 249 #[.agg #[.slice A1 2 c1,.slice A2 2 c2],.agg #[.slice A3 2 c3,.slice A4 2 c4]] wk (Zz 4 (ZL a b c) wk)) :=
  hide fun A1 A2 A3 A4 c1 c2 c3 c4 wk h1 h2 h3 h4=>Q7 _ _ _ _ (VQ hb.1 ha.1) (VQ hb.2 ha.2) (VQ hc.1 ha.1) (VQ hc.2 ha.2) A1 A2 A3 A4 c1 c2 c3 c4 wk h1 h2 h3 h4
 have xQ:Hid (∀ (A:Option Addr) (k:Nat) (wk:World),Sl wk wk.heap.size A (ZP (ZX 4 (ZL a b c)))->Calls prog 248 #[.slice A 4 k,.int .i64 3] wk (Zz 3 (ZL a b c) wk)) :=
  hide fun A k wk h=>YE (Yp 4 3 _ (.inr (by omega)) (by omega) (by omega) (by omega) (by omega) A k wk h)
 have a0:=PA.q0 rfl;have a1:=PA.q1 rfl;have b0:=PB.q0 rfl;have b1:=PB.q1 rfl;have c0:=PC.q0 rfl;have c1:=PC.q1 rfl;clear ha hb hc;obtain ⟨a,a'⟩:=a;obtain ⟨b,b'⟩:=b;obtain ⟨c,c'⟩:=c;dsimp only at *;have h00:UD w0 w.heap.size (w.heap.size+1) (w.heap.size+1+1) a a' b b' c c' w0:=⟨Below.refl _ _,a0,a1,b0,b1,c0,c1⟩;have hd0:=h00.keep (ZV (Below.refl _ _));go_enter func187,ntmps187;go_wp2;rw [<- hw0];have HW0:=hide hw0;clear hw0
 go_region_held3 (fun w'=>Below w0.heap.size w0 w'/\w'.cell? ⟨w.heap.size,0,none⟩=some (.int .i64 a)/\w'.cell? ⟨w.heap.size,1,none⟩=some (.int .i64 a')/\w'.cell? ⟨w.heap.size+1,0,none⟩=some (.int .i64 b)/\w'.cell? ⟨w.heap.size+1,1,none⟩=some (.int .i64 b')/\w'.cell? ⟨w.heap.size+1+1,0,none⟩=some (.int .i64 c)/\w'.cell? ⟨w.heap.size+1+1,1,none⟩=some (.int .i64 c'))
  (first|exact hd0|exact h00|exact UD.keep (by assumption) (by assumption)|exact hd0.keep (by assumption))
  (first
    | (go_at_call 250;((with_reducible refine (HB1.out _).mono ?_);rintro e w' ⟨A1,k1,A2,k2,rfl,hb1,hs1,hs2⟩;unfold Yv))
    | (go_at_call 250;((with_reducible refine (HB2.out _).mono ?_);rintro e w' ⟨A3,k3,A4,k4,rfl,hb2,hs3,hs4⟩;unfold Yv))
    | (go_at_call 249;((with_reducible refine (xO.out _ _ _ _ _ _ _ _ _ ((hs1.below hb2).more hb2.size) ((hs2.below hb2).more hb2.size) hs3 hs4).mono ?_);rintro e w' ⟨A5,k5,rfl,hb3,hs5⟩))
    | (go_at_call 248;((with_reducible refine (xQ.out _ _ _ hs5).mono ?_);rintro e w' ⟨A6,k6,rfl,hb4,hs6⟩)))
 all_goals
  go_wp2;go_ret;exact ⟨A6,k6,rfl,Z8 (Z8 (Z8 (Z8 (ZV hb0) hb1) hb2) hb3) hb4,hs6⟩
theorem XF.below{w w':World}{B:Nat}(h:XF w)(hb:Below B w w')(hg:8<B):XF w' :=
 ⟨(hb.cell (p:=⟨8,0,none⟩) hg).trans h.1,(hb.cell (p:=⟨8,1,none⟩) hg).trans h.2⟩
def MW(w:World):Prop:=XF w/\8<w.heap.size
theorem MW.step{w w':World}(h:MW w)(hb:Below w.heap.size w w'):MW w':=⟨h.1.below hb h.2,Nat.lt_of_lt_of_le h.2 hb.size⟩
theorem Xm(a b c:Pt)(ha:PJ a)(hb:PJ b)(hc:PJ c)(w:World)(hw:MW w):
 Calls prog 137 #[.agg #[.int .i64 a.1,.int .i64 a.2],.agg #[.int .i64 b.1,.int .i64 b.2],.agg #[.int .i64 c.1,.int .i64 c.2]] w fun e w'=>e=.returned (.int .i64 (ZL a b c).sign)/\Below w.heap.size w w':=by
 obtain ⟨w0,hw0⟩:=eE (((w.alloc (.cells #[.int .i64 a.1,.int .i64 a.2] 41)).alloc (.cells #[.int .i64 b.1,.int .i64 b.2] 41)).alloc (.cells #[.int .i64 c.1,.int .i64 c.2] 41));have hb0:Below w.heap.size w w0:=by rw [hw0];exact ZY (ZY (bA) _) _
 have HV:=hide (IL a b c ha hb hc w0);have HF:=hide (Qr ha hb hc);have HW:=hide (hw.step hb0);clear ha hb hc hw;go_enter func137,ntmps137;go_wp2_with fail;rw [<- hw0];have HW0:=hide hw0;clear hw0;refine HV.out.mono ?_;rintro e w1 ⟨A1,c1,rfl,hb1,hs1⟩;have hw1:=HW.out.step hb1;have HS:=hide (XT 3 _ HF.out (by omega) (by omega) A1 c1 w1 hs1 hw1.1 hw1.2);clear hs1 hw1;go_wp2_with fail;refine HS.out.mono ?_;rintro e w2 ⟨rfl,hb2⟩;go_wp2;go_ret;exact ⟨rfl,Z8 (Z8 hb0 hb1) hb2⟩
end
end Go.Proofs.YthnenedoblncjaaGreatDoor