/- Diff2 Orient Circle2 -/
import Derived.Deep.DeepCutAuto
import Derived.Deep.RegionHeld3
import Derived.Test.YthnenedoblncjaaGreatDoorPkR13
set_option maxRecDepth 1000000
set_option maxHeartbeats 8000000
namespace Go.Proofs.YthnenedoblncjaaGreatDoor
open Go.Proofs.Tryz
section
open Go.RowKit
def YG(n:Nat)(v:Int)(w:World)(e:Ending)(w':World):Prop :=
 ∃ A c,e=.returned (.slice A n c)/\Below w.heap.size w w'/\Sl w' w'.heap.size A (Zm (ZO n v))
theorem Uo.n{n:Nat}{v:Int}{w w':World}{e:Ending}(h:Uo (ZO n v) w e w'):YG n v w e w':=by
 obtain ⟨A,c,h1,h2,h3⟩:=h;exact ⟨A,c,by rw [h1,ZQ],h2,h3⟩
theorem Wx{P:Program}{f:FuncId}{args:Array Value}{n:Nat}{v:Int}{w:World}(h:Calls P f args w (Uo (ZO n v) w)):Calls P f args w (YG n v w):=h.mono fun _ _ h=>h.n
def vO(x:Int):Prop:=-9223372036854775808<=x/\x<9223372036854775808
theorem Gp(a b:Int)(ha:vO a)(hb:vO b)(w:World):Calls prog 297 #[.int .i64 a,.int .i64 b] w (Uo (ZO 2 (a - b)) w):=by
 have FA:=J8 a ha.1 ha.2 2 (by omega) (by omega) w;have FB:∀ w1,Calls prog 251 #[.int .i64 b,.int .i64 2] w1 (Uo (ZO 2 b) w1):=fun w1=>J8 b hb.1 hb.2 2 (by omega) (by omega) w1;have HFA:=hide FA;have HFB:=hide FB;clear FA FB ha hb;go_enter func297,ntmps297;go_wp2_with fail;refine HFA.out.mono ?_;rintro e w1 ⟨A1,c1,rfl,hb1,hs1⟩;rw [ZQ];go_wp2_with fail;refine (HFB.out w1).mono ?_;rintro e w2 ⟨A2,c2,rfl,hb2,hs2⟩;rw [ZQ];have SB:=Kz 2 a b (by omega) (by omega) A1 A2 c1 c2 w2 ((hs1.below hb2).more hb2.size) hs2;have HSB:=hide SB;clear SB hs1 hs2;go_wp2_with fail;refine HSB.out.mono ?_;rintro e w3 ⟨A3,c3,rfl,hb3,hs3⟩;go_wp2;go_ret;exact ⟨A3,c3,rfl,Z8 (Z8 hb1 hb2) hb3,hs3⟩
def Wn(A:Option Addr)(c:Nat)(A':Option Addr)(c':Nat):Value:=.agg #[.slice A 2 c,.slice A' 2 c']
def zvu(x y:Int)(w:World)(e:Ending)(w':World):Prop :=
 ∃ A c A' c',e=.returned (Wn A c A' c')/\Below w.heap.size w w'/\Sl w' w'.heap.size A (Zm (ZO 2 x))/\Sl w' w'.heap.size A' (Zm (ZO 2 y))
def sW(w0 w':World)(b1 b2 g:Nat)(v1 v2 v3 v4:Value):Prop :=
 Below w0.heap.size w0 w'/\w'.cell? ⟨b1,0,none⟩=some v1/\w'.cell? ⟨b1,1,none⟩=some v2/\w'.cell? ⟨b2,0,none⟩=some v3/\w'.cell? ⟨b2,1,none⟩=some v4/\w'.cell? ⟨g,0,none⟩=some (.slice none 0 0)/\w'.cell? ⟨g,1,none⟩=some (.slice none 0 0)/\w'.frozen? ⟨g,0,none⟩=false/\w'.frozen? ⟨g,1,none⟩=false
theorem sW.keep{w0 wk w':World}{b1 b2 g:Nat}{v1 v2 v3 v4:Value}(h:sW w0 wk b1 b2 g v1 v2 v3 v4)(hb:Below wk.heap.size wk w'):sW w0 w' b1 b2 g v1 v2 v3 v4:=by
 have on:∀ {b o:Nat} {v:Value},wk.cell? ⟨b,o,none⟩=some v->w'.cell? ⟨b,o,none⟩=some v:=fun h=>(hb.cell (p:=⟨_,_,none⟩) (Zz h)).trans h;obtain ⟨h0,h1,h2,h3,h4,h5,h6,h7,h8⟩:=h;exact ⟨Z8 h0 hb,on h1,on h2,on h3,on h4,on h5,on h6,(hb.frozen (p:=⟨g,0,none⟩) (Zz h5)).trans h7,(hb.frozen (p:=⟨g,1,none⟩) (Zz h6)).trans h8⟩
theorem bM {w:World} {B g:Nat} {A:Option Addr} {l:List Int} {x:Addr} {t:TypeId} {B1 B2:Option Addr} {n1 n2 k1 k2:Nat} (h:Sl w B A (Zm l)) (hl:0<l.length) (hA:A=some x)
 (hb:Z7 w g t #[.slice B1 n1 k1,.slice B2 n2 k2]):x.block≠g:=by
 rintro rfl;obtain ⟨b,off,hA',_,hc⟩:=h.u hl;rw [hA'] at hA;cases hA;obtain ⟨y,hy⟩:∃ y,l[0]?=some y:=⟨_,List.getElem?_eq_getElem hl⟩;have c0:=hc 0 y hy;have hcell:=cell_of_row w b (off+0) _ t (0,0) hb;rw [c0] at hcell;generalize off+0=i at hcell
 match i,hcell with
 | 0,h=>simp at h
 | 1,h=>simp at h
 | i+2,h=>simp at h
theorem o8 {w w0 w1 w2:World} {g:Nat} {t:TypeId} {A1 A2:Option Addr} {c1 c2:Nat} {x y:Int} (hb0:Below w.heap.size w w0) (hg:w.heap.size<=g) (hb1:Below w0.heap.size w0.drew w1) (hb2:Below w1.heap.size w1 w2)
 (RV:Z7 w0 g t #[.slice none 0 0,.slice none 0 0]) (hs1:Sl w1 w1.heap.size A1 (Zm (ZO 2 x))) (hs2:Sl w2 w2.heap.size A2 (Zm (ZO 2 y))) :
 (w2.setCell ⟨g,0,none⟩ (.slice A1 2 c1)).cell? ⟨g,0,none⟩=some (.slice A1 2 c1)/\((w2.setCell ⟨g,0,none⟩ (.slice A1 2 c1)).setCell ⟨g,1,none⟩ (.slice A2 2 c2)).cell? ⟨g,1,none⟩=some (.slice A2 2 c2) /\
 zvu x y w (.returned (Wn A1 c1 A2 c2)) ((w2.setCell ⟨g,0,none⟩ (.slice A1 2 c1)).setCell ⟨g,1,none⟩ (.slice A2 2 c2)):=by
 have R1:Z7 w1 g t #[.slice none 0 0,.slice none 0 0]:=(RV.drew).below hb1 RV.lt;have R2:=R1.step hb2;have hl1:0<(ZO 2 x).length:=by rw [ZQ];omega
 have hl2:0<(ZO 2 y).length:=by rw [ZQ];omega
 have Ko:=(hs1.below hb2).more hb2.size;have f1:=(Ko.far (p:=⟨g,0,none⟩) (fun _ z hz=>bM Ko hl1 hz R2) (.slice A1 2 c1)).far (p:=⟨g,1,none⟩) (fun _ z hz=>bM Ko hl1 hz R2) (.slice A2 2 c2);have f2:=(hs2.far (p:=⟨g,0,none⟩) (fun _ z hz=>bM hs2 hl2 hz R2) (.slice A1 2 c1)).far (p:=⟨g,1,none⟩) (fun _ z hz=>bM hs2 hl2 hz R2) (.slice A2 2 c2);refine ⟨(R2.set 0 _).q0 rfl,((R2.set 0 (.slice A1 2 c1)).set 1 _).q1 rfl,A1,c1,A2,c2,rfl,?_,?_,?_⟩
 · exact ((Z8 (Z8 hb0 (Ye hb1)) hb2).setCell hg _).setCell hg _
 · simpa [World.size_setCell] using f1
 · simpa [World.size_setCell] using f2
theorem Vz(ax ay bx RU:Int)(h1:vO ax)(h2:vO ay)(h3:vO bx)(h4:vO RU)(w:World):
 Calls prog 250 #[.agg #[.int .i64 ax,.int .i64 ay],.agg #[.int .i64 bx,.int .i64 RU]] w (zvu (bx - ax) (RU - ay) w):=by
 obtain ⟨w0,hw0⟩:=eE (((w.alloc (.cells #[.int .i64 ax,.int .i64 ay] 41)).alloc (.cells #[.int .i64 bx,.int .i64 RU] 41)).alloc (.cells #[.slice none 0 0,.slice none 0 0] 284));have hb0:Below w.heap.size w w0:=by rw [hw0];exact Z5 (Z5 (bA) _) _
 have PA:Z7 w0 w.heap.size 41 #[.int .i64 ax,.int .i64 ay]:=by rw [hw0];exact ((Z7.new _ _ _).alloc _).alloc _
 have PB:Z7 w0 (w.heap.size+1) 41 #[.int .i64 bx,.int .i64 RU]:=by rw [hw0];exact (Z7.new2 _ _ _ _).alloc _
 have RV:Z7 w0 (w.heap.size+1+1) 284 #[.slice none 0 0,.slice none 0 0]:=by
  rw [hw0];have h:=Z7.new ((w.alloc (.cells #[.int .i64 ax,.int .i64 ay] 41)).alloc (.cells #[.int .i64 bx,.int .i64 RU] 41)) 284 #[.slice none 0 0,.slice none 0 0];simpa using h
 have a0:=PA.q0 rfl;have a1:=PA.q1 rfl;have b0:=PB.q0 rfl;have b1:=PB.q1 rfl;have nJ:=hide (fun wk=>Wx (Gp bx ax h3 h1 wk));have nK:=hide (fun wk=>Wx (Gp RU ay h4 h2 wk));clear h1 h2 h3 h4;go_enter func250,ntmps250;go_wp2;rw [<- hw0];have HW0:=hide hw0;clear hw0;have r0:=RV.q0 rfl;have r1:=RV.q1 rfl;have f0:=RV.frozen 0;have f1:=RV.frozen 1;have h00:sW w0 w0 w.heap.size (w.heap.size+1) (w.heap.size+1+1) (.int .i64 ax) (.int .i64 ay) (.int .i64 bx) (.int .i64 RU):=⟨Below.refl _ _,a0,a1,b0,b1,r0,r1,f0,f1⟩;have hd0:=h00.keep (ZV (Below.refl _ _))
 go_region_law (first
  | (go_simp;go_at_call 297;(with_reducible refine (nJ.out _).mono ?_);rintro e w1 ⟨A1,c1,rfl,hb1,hs1⟩;obtain ⟨-,x0,x1,x2,x3,x4,x5,x6,x7⟩:=hd0.keep hb1)
  | (go_simp;go_at_call 297;(with_reducible refine (nK.out _).mono ?_);rintro e w2 ⟨A2,c2,rfl,hb2,hs2⟩;obtain ⟨-,x0,x1,x2,x3,x4,x5,x6,x7⟩:=(hd0.keep hb1).keep hb2))
 all_goals
  obtain ⟨e0,e1,hfin⟩:=o8 (c1:=c1) (c2:=c2) hb0 (show w.heap.size<=w.heap.size+1+1 by omega) hb1 hb2 RV hs1 hs2;clear x0 x1 x2 x3 x4 x5 x6 x7;go_wp2;exact bodyPost_ret (v:=.agg #[.slice A1 2 c1,.slice A2 2 c2]) (by simp [results,Tryz.results250,go_sem,e0,e1]) rfl hfin
theorem NA {w0 wk w':World} {b1 o1 b2 o2 b3 o3 b4 o4:Nat} {v1 v2 v3 v4:Value} (hb:Below wk.heap.size wk w')
 (h:Below w0.heap.size w0 wk/\wk.cell? ⟨b1,o1,none⟩=some v1/\wk.cell? ⟨b2,o2,none⟩=some v2/\wk.cell? ⟨b3,o3,none⟩=some v3/\wk.cell? ⟨b4,o4,none⟩=some v4) :
 Below w0.heap.size w0 w'/\w'.cell? ⟨b1,o1,none⟩=some v1/\w'.cell? ⟨b2,o2,none⟩=some v2/\w'.cell? ⟨b3,o3,none⟩=some v3/\w'.cell? ⟨b4,o4,none⟩=some v4 :=
 have on:∀ {b o:Nat} {v:Value},wk.cell? ⟨b,o,none⟩=some v->w'.cell? ⟨b,o,none⟩=some v:=fun h=>(hb.cell (p:=⟨_,_,none⟩) (Zz h)).trans h
 ⟨Z8 h.1 hb,on h.2.1,on h.2.2.1,on h.2.2.2.1,on h.2.2.2.2⟩
theorem zD(A A':Option Addr)(c c':Nat)(w:World):Calls prog 295 #[Wn A c A' c'] w fun e w'=>e=.returned (Wn A' c' A c)/\Below w.heap.size w w':=by
 unfold Wn;obtain ⟨w0,hw0⟩:=eE ((w.alloc (.cells #[.slice A 2 c,.slice A' 2 c'] 284)).alloc (.cells #[.slice A' 2 c',.slice A 2 c] 284));have hb0:=bF hw0;have R0:Z7 w0 (w.heap.size+1) 284 #[.slice A' 2 c',.slice A 2 c]:=by rw [hw0];exact Z7.new2 _ _ _ _
 have e0:=R0.q0 rfl;have e1:=R0.q1 rfl;go_enter func295,ntmps295;go_wp2;rw [<- hw0];exact bodyPost_ret (v:=.agg #[.slice A' 2 c',.slice A 2 c]) (by simp [results,Tryz.results295,go_sem,e0,e1]) rfl ⟨rfl,hb0⟩
theorem lJ(A A':Option Addr)(c c':Nat)(w:World):Calls prog 335 #[Wn A c A' c'] w fun e w'=>e=.returned (Wn A c A' c')/\Below w.heap.size w w':=by
 unfold Wn;obtain ⟨w0,hw0⟩:=eE ((w.alloc (.cells #[.slice A 2 c,.slice A' 2 c'] 284)).alloc (.cells #[.slice A 2 c,.slice A' 2 c'] 284));have hb0:=bF hw0;have R0:Z7 w0 (w.heap.size+1) 284 #[.slice A 2 c,.slice A' 2 c']:=by rw [hw0];exact Z7.new2 _ _ _ _
 have e0:=R0.q0 rfl;have e1:=R0.q1 rfl;go_enter func335,ntmps335;go_wp2;rw [<- hw0];exact bodyPost_ret (v:=.agg #[.slice A 2 c,.slice A' 2 c']) (by simp [results,Tryz.results335,go_sem,e0,e1]) rfl ⟨rfl,hb0⟩
theorem AO(A1 A2 A3 A4:Option Addr)(c1 c2 c3 c4:Nat)(g:Nat)(w:World)(hb:Z7 w g 284 #[.slice A1 2 c1,.slice A2 2 c2,.slice A3 2 c3,.slice A4 2 c4]):
 Calls prog 334 #[.slice (some ⟨g,0,none⟩) 2 2] w fun e w'=>e=.returned (.bool true)/\Below w.heap.size w w':=by
 have HB:=hide hb;go_enter func334,ntmps334;go_wp2
 go_loopw [7] (fun i wr=>∃ k:Nat,k<=2/\i=.int .i64 k/\Below w.heap.size w wr)
  (fun i _=>2 - (intOf i).toNat)
 case atStart=>exact ⟨0,by omega,rfl,Below.refl _ _⟩
 case round =>
  obtain ⟨k,hk,rfl,hbr⟩:=hrel;have Br:=HB.out.step hbr
  by_cases h0:k=0
  · subst h0;have c0:=Br.q0 rfl;have c1:=Br.q1 rfl;go_wp2;go_roundw
    case rel=>exact ⟨1,by omega,rfl,Z5 hbr _⟩
    case measure=>simp [intOf]
  · by_cases h1:k=1
    · subst h1;have c0:=Br.q2 rfl;have c1:=Br.q3 rfl;go_wp2;go_roundw
      case rel=>exact ⟨2,by omega,rfl,Z5 hbr _⟩
      case measure=>simp [intOf]
    · obtain rfl:k=2:=(by omega);go_wp2;go_ret;exact ⟨rfl,hbr⟩
theorem wF(x y:Int)(A A':Option Addr)(c c':Nat)(w:World)(h1:Sl w w.heap.size A (Zm (ZO 4 x)))(h2:Sl w w.heap.size A' (Zm (ZO 4 y))):
 Calls prog 296 #[.slice A 4 c,.slice A' 4 c'] w (YG 4 (x - y) w):=by
 have HS:=hide (Wx (Kz 4 x y (by omega) (by omega) A A' c c' w h1 h2));clear h1 h2;go_enter func296,ntmps296;go_wp2_with fail;refine HS.out.mono ?_;rintro e w1 ⟨A1,c1,rfl,hb1,h1⟩;go_wp2;go_ret;exact ⟨A1,c1,rfl,hb1,h1⟩
theorem yP (ux uy vx vy:Int) (fx:Fits 2 ux) (fy:Fits 2 uy) (gx:Fits 2 vx) (gy:Fits 2 vy) (A1 A2 A3 A4:Option Addr) (c1 c2 c3 c4:Nat) (w:World)
 (h1:Sl w w.heap.size A1 (Zm (ZO 2 ux))) (h2:Sl w w.heap.size A2 (Zm (ZO 2 uy))) (h3:Sl w w.heap.size A3 (Zm (ZO 2 vx))) (h4:Sl w w.heap.size A4 (Zm (ZO 2 vy))) :
 Calls prog 294 #[.agg #[.slice A1 2 c1,.slice A2 2 c2],.agg #[.slice A3 2 c3,.slice A4 2 c4],.func (.func 295) #[] #[],.func (.func 296) #[] #[]] w (YG 4 (ux*vy - uy*vx) w):=by
 obtain ⟨w0,hw0⟩:=eE (((w.alloc (.cells #[.slice A1 2 c1,.slice A2 2 c2] 284)).alloc (.cells #[.slice A3 2 c3,.slice A4 2 c4] 284)).alloc (.cells #[.slice A1 2 c1,.slice A2 2 c2,.slice A3 2 c3,.slice A4 2 c4] 284));have hb0:Below w.heap.size w w0:=by rw [hw0];exact Z5 (Z5 (bA) _) _
 have U0:Z7 w0 w.heap.size 284 #[.slice A1 2 c1,.slice A2 2 c2]:=by rw [hw0];exact ((Z7.new _ _ _).alloc _).alloc _
 have V0:Z7 w0 (w.heap.size+1) 284 #[.slice A3 2 c3,.slice A4 2 c4]:=by rw [hw0];exact (Z7.new2 _ _ _ _).alloc _
 have S0:Z7 w0 (w.heap.size+1+1) 284 #[.slice A1 2 c1,.slice A2 2 c2,.slice A3 2 c3,.slice A4 2 c4]:=by
  rw [hw0];have h:=Z7.new ((w.alloc (.cells #[.slice A1 2 c1,.slice A2 2 c2] 284)).alloc (.cells #[.slice A3 2 c3,.slice A4 2 c4] 284)) 284 #[.slice A1 2 c1,.slice A2 2 c2,.slice A3 2 c3,.slice A4 2 c4];simpa using h
 have M1:∀ wk,Below w.heap.size w wk->Calls prog 254 #[.slice A1 2 c1,.slice A4 2 c4] wk (YG 4 (ux*vy) wk):=fun wk hk=>Wx (Rl 2 2 ux vy (by omega) (by omega) (by omega) fx gy A1 A4 c1 c4 wk ((h1.below hk).more hk.size) ((h4.below hk).more hk.size));have M2:∀ wk,Below w.heap.size w wk->Calls prog 254 #[.slice A2 2 c2,.slice A3 2 c3] wk (YG 4 (uy*vx) wk):=fun wk hk=>Wx (Rl 2 2 uy vx (by omega) (by omega) (by omega) fy gx A2 A3 c2 c3 wk ((h2.below hk).more hk.size) ((h3.below hk).more hk.size));have HIS:=hide (AO A1 A2 A3 A4 c1 c2 c3 c4 _ w0 S0);have HM1:=hide M1;have HM2:=hide M2;clear M1 M2 h1 h2 h3 h4 fx fy gx gy;go_enter func294,ntmps294;go_wp2_with fail;rw [<- hw0];have HW0:=hide hw0;clear hw0;refine HIS.out.mono ?_;rintro e w1 ⟨rfl,hb1⟩;have V1:=V0.step hb1;have v0:=V1.q0 rfl;have v1:=V1.q1 rfl;have HAR:Hid (Calls prog 295 #[.agg #[.slice A3 2 c3,.slice A4 2 c4]] w1 fun e w'=>e=.returned (.agg #[.slice A4 2 c4,.slice A3 2 c3])/\Below w1.heap.size w1 w'):=hide (zD A3 A4 c3 c4 w1);go_wp2_with fail;refine HAR.out.mono ?_;rintro e w2 ⟨rfl,hb2⟩;obtain ⟨w3,hw3⟩:=eE (w2.alloc (.cells #[.slice A4 2 c4,.slice A3 2 c3] 284));have hb3:=bE hw3;have W3:Z7 w3 w2.heap.size 284 #[.slice A4 2 c4,.slice A3 2 c3]:=by rw [hw3];exact Z7.new _ _ _
 have U3:=((U0.step hb1).step hb2).step hb3;have HB3:=Z8 (Z8 (Z8 hb0 hb1) hb2) hb3;clear v0 v1;go_wp2;rw [<- hw3];have HW3:=hide hw3;clear hw3;have u0:=U3.q0 rfl;have u1:=U3.q1 rfl;have x0:=W3.q0 rfl;have x1:=W3.q1 rfl;have hS0:(fun w':World=>Below w3.heap.size w3 w'/\w'.cell? ⟨w.heap.size,0,none⟩=some (.slice A1 2 c1)/\w'.cell? ⟨w.heap.size,1,none⟩=some (.slice A2 2 c2)/\w'.cell? ⟨w2.heap.size,0,none⟩=some (.slice A4 2 c4)/\w'.cell? ⟨w2.heap.size,1,none⟩=some (.slice A3 2 c3)) w3:=⟨Below.refl _ _,u0,u1,x0,x1⟩;have hSd:(fun w':World=>Below w3.heap.size w3 w'/\w'.cell? ⟨w.heap.size,0,none⟩=some (.slice A1 2 c1)/\w'.cell? ⟨w.heap.size,1,none⟩=some (.slice A2 2 c2)/\w'.cell? ⟨w2.heap.size,0,none⟩=some (.slice A4 2 c4)/\w'.cell? ⟨w2.heap.size,1,none⟩=some (.slice A3 2 c3)) w3.drew:=NA (ZV (Below.refl _ _)) hS0;have N1:Hid (∀ w',(Below w3.heap.size w3 w'/\w'.cell? ⟨w.heap.size,0,none⟩=some (.slice A1 2 c1)/\w'.cell? ⟨w.heap.size,1,none⟩=some (.slice A2 2 c2)/\w'.cell? ⟨w2.heap.size,0,none⟩=some (.slice A4 2 c4)/\w'.cell? ⟨w2.heap.size,1,none⟩=some (.slice A3 2 c3))->Calls prog 254 #[.slice A1 2 c1,.slice A4 2 c4] w' (YG 4 (ux*vy) w')):=hide fun wk h=>HM1.out wk (Z8 HB3 h.1);have N2:Hid (∀ w',(Below w3.heap.size w3 w'/\w'.cell? ⟨w.heap.size,0,none⟩=some (.slice A1 2 c1)/\w'.cell? ⟨w.heap.size,1,none⟩=some (.slice A2 2 c2)/\w'.cell? ⟨w2.heap.size,0,none⟩=some (.slice A4 2 c4)/\w'.cell? ⟨w2.heap.size,1,none⟩=some (.slice A3 2 c3))->Calls prog 254 #[.slice A2 2 c2,.slice A3 2 c3] w' (YG 4 (uy*vx) w')):=hide fun wk h=>HM2.out wk (Z8 HB3 h.1)
 go_region_held3 (fun w'=>Below w3.heap.size w3 w'/\w'.cell? ⟨w.heap.size,0,none⟩=some (.slice A1 2 c1)/\w'.cell? ⟨w.heap.size,1,none⟩=some (.slice A2 2 c2)/\w'.cell? ⟨w2.heap.size,0,none⟩=some (.slice A4 2 c4)/\w'.cell? ⟨w2.heap.size,1,none⟩=some (.slice A3 2 c3))
  (first|exact hSd|exact hS0|exact NA (by assumption) (by assumption)|exact NA (by assumption) hSd)
  (first
    | (go_at_call 254;((with_reducible refine (N1.out _ (by assumption)).mono ?_);rintro e w' ⟨A5,c5,rfl,hb4,hs4⟩))
    | (go_at_call 254;((with_reducible refine (N1.out _ hSd).mono ?_);rintro e w' ⟨A5,c5,rfl,hb4,hs4⟩))
    | (go_at_call 254;((with_reducible refine (N2.out _ (by assumption)).mono ?_);rintro e w' ⟨A6,c6,rfl,hb5,hs5⟩))
    | (go_at_call 296;((with_reducible refine (wF _ _ _ _ _ _ _ ((hs4.below hb5).more hb5.size) hs5).mono ?_);rintro e w' ⟨A7,c7,rfl,hb6,hs6⟩)))
 all_goals
  go_wp2;go_ret;exact ⟨A7,c7,rfl,Z8 (Z8 (Z8 (ZV HB3) hb4) hb5) hb6,hs6⟩
theorem Gq (ux uy vx vy:Int) (fx:Fits 2 ux) (fy:Fits 2 uy) (gx:Fits 2 vx) (gy:Fits 2 vy) (A1 A2 A3 A4:Option Addr) (c1 c2 c3 c4:Nat) (w:World)
 (h1:Sl w w.heap.size A1 (Zm (ZO 2 ux))) (h2:Sl w w.heap.size A2 (Zm (ZO 2 uy))) (h3:Sl w w.heap.size A3 (Zm (ZO 2 vx))) (h4:Sl w w.heap.size A4 (Zm (ZO 2 vy))) :
 Calls prog 249 #[.agg #[.slice A1 2 c1,.slice A2 2 c2],.agg #[.slice A3 2 c3,.slice A4 2 c4]] w (YG 4 (ux*vy - uy*vx) w):=by
 obtain ⟨w0,hw0⟩:=eE ((w.alloc (.cells #[.slice A1 2 c1,.slice A2 2 c2] 284)).alloc (.cells #[.slice A3 2 c3,.slice A4 2 c4] 284));have hb0:=bF hw0;have hz:=hb0.size;have HP:=hide (yP ux uy vx vy fx fy gx gy A1 A2 A3 A4 c1 c2 c3 c4 w0 ((h1.below hb0).more hz) ((h2.below hb0).more hz) ((h3.below hb0).more hz) ((h4.below hb0).more hz));clear h1 h2 h3 h4 fx fy gx gy;go_enter func249,ntmps249;go_wp2_with fail;rw [<- hw0];have HW0:=hide hw0;clear hw0;refine HP.out.mono ?_;rintro e w1 ⟨A5,c5,rfl,hb1,hs⟩;go_wp2;go_ret;exact ⟨A5,c5,rfl,Z8 hb0 hb1,hs⟩
theorem gB(x y:Int)(A A':Option Addr)(c c':Nat)(w:World)(h1:Sl w w.heap.size A (Zm (ZO 4 x)))(h2:Sl w w.heap.size A' (Zm (ZO 4 y))):
 Calls prog 336 #[.slice A 4 c,.slice A' 4 c'] w (YG 4 (x+y) w):=by
 have HS:=hide (Wx (Cm 4 x y (by omega) (by omega) A A' c c' w h1 h2));clear h1 h2;go_enter func336,ntmps336;go_wp2_with fail;refine HS.out.mono ?_;rintro e w1 ⟨A1,c1,rfl,hb1,h1⟩;go_wp2;go_ret;exact ⟨A1,c1,rfl,hb1,h1⟩
theorem kL (ux uy vx vy:Int) (fx:Fits 2 ux) (fy:Fits 2 uy) (gx:Fits 2 vx) (gy:Fits 2 vy) (A1 A2 A3 A4:Option Addr) (c1 c2 c3 c4:Nat) (w:World)
 (h1:Sl w w.heap.size A1 (Zm (ZO 2 ux))) (h2:Sl w w.heap.size A2 (Zm (ZO 2 uy))) (h3:Sl w w.heap.size A3 (Zm (ZO 2 vx))) (h4:Sl w w.heap.size A4 (Zm (ZO 2 vy))) :
 Calls prog 294 #[.agg #[.slice A1 2 c1,.slice A2 2 c2],.agg #[.slice A3 2 c3,.slice A4 2 c4],.func (.func 335) #[] #[],.func (.func 336) #[] #[]] w (YG 4 (ux*vx+uy*vy) w):=by
 obtain ⟨w0,hw0⟩:=eE (((w.alloc (.cells #[.slice A1 2 c1,.slice A2 2 c2] 284)).alloc (.cells #[.slice A3 2 c3,.slice A4 2 c4] 284)).alloc (.cells #[.slice A1 2 c1,.slice A2 2 c2,.slice A3 2 c3,.slice A4 2 c4] 284));have hb0:Below w.heap.size w w0:=by rw [hw0];exact Z5 (Z5 (bA) _) _
 have U0:Z7 w0 w.heap.size 284 #[.slice A1 2 c1,.slice A2 2 c2]:=by rw [hw0];exact ((Z7.new _ _ _).alloc _).alloc _
 have V0:Z7 w0 (w.heap.size+1) 284 #[.slice A3 2 c3,.slice A4 2 c4]:=by rw [hw0];exact (Z7.new2 _ _ _ _).alloc _
 have S0:Z7 w0 (w.heap.size+1+1) 284 #[.slice A1 2 c1,.slice A2 2 c2,.slice A3 2 c3,.slice A4 2 c4]:=by
  rw [hw0];have h:=Z7.new ((w.alloc (.cells #[.slice A1 2 c1,.slice A2 2 c2] 284)).alloc (.cells #[.slice A3 2 c3,.slice A4 2 c4] 284)) 284 #[.slice A1 2 c1,.slice A2 2 c2,.slice A3 2 c3,.slice A4 2 c4];simpa using h
 have M1:∀ wk,Below w.heap.size w wk->Calls prog 254 #[.slice A1 2 c1,.slice A3 2 c3] wk (YG 4 (ux*vx) wk):=fun wk hk=>Wx (Rl 2 2 ux vx (by omega) (by omega) (by omega) fx gx A1 A3 c1 c3 wk ((h1.below hk).more hk.size) ((h3.below hk).more hk.size));have M2:∀ wk,Below w.heap.size w wk->Calls prog 254 #[.slice A2 2 c2,.slice A4 2 c4] wk (YG 4 (uy*vy) wk):=fun wk hk=>Wx (Rl 2 2 uy vy (by omega) (by omega) (by omega) fy gy A2 A4 c2 c4 wk ((h2.below hk).more hk.size) ((h4.below hk).more hk.size));have HIS:=hide (AO A1 A2 A3 A4 c1 c2 c3 c4 _ w0 S0);have HM1:=hide M1;have HM2:=hide M2;clear M1 M2 h1 h2 h3 h4 fx fy gx gy;go_enter func294,ntmps294;go_wp2_with fail;rw [<- hw0];have HW0:=hide hw0;clear hw0;refine HIS.out.mono ?_;rintro e w1 ⟨rfl,hb1⟩;have V1:=V0.step hb1;have v0:=V1.q0 rfl;have v1:=V1.q1 rfl;have HAR:Hid (Calls prog 335 #[.agg #[.slice A3 2 c3,.slice A4 2 c4]] w1 fun e w'=>e=.returned (.agg #[.slice A3 2 c3,.slice A4 2 c4])/\Below w1.heap.size w1 w'):=hide (lJ A3 A4 c3 c4 w1);go_wp2_with fail;refine HAR.out.mono ?_;rintro e w2 ⟨rfl,hb2⟩;obtain ⟨w3,hw3⟩:=eE (w2.alloc (.cells #[.slice A3 2 c3,.slice A4 2 c4] 284));have hb3:=bE hw3;have W3:Z7 w3 w2.heap.size 284 #[.slice A3 2 c3,.slice A4 2 c4]:=by rw [hw3];exact Z7.new _ _ _
 have U3:=((U0.step hb1).step hb2).step hb3;have HB3:=Z8 (Z8 (Z8 hb0 hb1) hb2) hb3;clear v0 v1;go_wp2;rw [<- hw3];have HW3:=hide hw3;clear hw3;have u0:=U3.q0 rfl;have u1:=U3.q1 rfl;have x0:=W3.q0 rfl;have x1:=W3.q1 rfl;have hS0:(fun w':World=>Below w3.heap.size w3 w'/\w'.cell? ⟨w.heap.size,0,none⟩=some (.slice A1 2 c1)/\w'.cell? ⟨w.heap.size,1,none⟩=some (.slice A2 2 c2)/\w'.cell? ⟨w2.heap.size,0,none⟩=some (.slice A3 2 c3)/\w'.cell? ⟨w2.heap.size,1,none⟩=some (.slice A4 2 c4)) w3:=⟨Below.refl _ _,u0,u1,x0,x1⟩;have hSd:(fun w':World=>Below w3.heap.size w3 w'/\w'.cell? ⟨w.heap.size,0,none⟩=some (.slice A1 2 c1)/\w'.cell? ⟨w.heap.size,1,none⟩=some (.slice A2 2 c2)/\w'.cell? ⟨w2.heap.size,0,none⟩=some (.slice A3 2 c3)/\w'.cell? ⟨w2.heap.size,1,none⟩=some (.slice A4 2 c4)) w3.drew:=NA (ZV (Below.refl _ _)) hS0;have N1:Hid (∀ w',(Below w3.heap.size w3 w'/\w'.cell? ⟨w.heap.size,0,none⟩=some (.slice A1 2 c1)/\w'.cell? ⟨w.heap.size,1,none⟩=some (.slice A2 2 c2)/\w'.cell? ⟨w2.heap.size,0,none⟩=some (.slice A3 2 c3)/\w'.cell? ⟨w2.heap.size,1,none⟩=some (.slice A4 2 c4))->Calls prog 254 #[.slice A1 2 c1,.slice A3 2 c3] w' (YG 4 (ux*vx) w')):=hide fun wk h=>HM1.out wk (Z8 HB3 h.1);have N2:Hid (∀ w',(Below w3.heap.size w3 w'/\w'.cell? ⟨w.heap.size,0,none⟩=some (.slice A1 2 c1)/\w'.cell? ⟨w.heap.size,1,none⟩=some (.slice A2 2 c2)/\w'.cell? ⟨w2.heap.size,0,none⟩=some (.slice A3 2 c3)/\w'.cell? ⟨w2.heap.size,1,none⟩=some (.slice A4 2 c4))->Calls prog 254 #[.slice A2 2 c2,.slice A4 2 c4] w' (YG 4 (uy*vy) w')):=hide fun wk h=>HM2.out wk (Z8 HB3 h.1)
 go_region_held3 (fun w'=>Below w3.heap.size w3 w'/\w'.cell? ⟨w.heap.size,0,none⟩=some (.slice A1 2 c1)/\w'.cell? ⟨w.heap.size,1,none⟩=some (.slice A2 2 c2)/\w'.cell? ⟨w2.heap.size,0,none⟩=some (.slice A3 2 c3)/\w'.cell? ⟨w2.heap.size,1,none⟩=some (.slice A4 2 c4))
  (first|exact hSd|exact hS0|exact NA (by assumption) (by assumption)|exact NA (by assumption) hSd)
  (first
    | (go_at_call 254;((with_reducible refine (N1.out _ (by assumption)).mono ?_);rintro e w' ⟨A5,c5,rfl,hb4,hs4⟩))
    | (go_at_call 254;((with_reducible refine (N1.out _ hSd).mono ?_);rintro e w' ⟨A5,c5,rfl,hb4,hs4⟩))
    | (go_at_call 254;((with_reducible refine (N2.out _ (by assumption)).mono ?_);rintro e w' ⟨A6,c6,rfl,hb5,hs5⟩))
    | (go_at_call 336;((with_reducible refine (gB _ _ _ _ _ _ _ ((hs4.below hb5).more hb5.size) hs5).mono ?_);rintro e w' ⟨A7,c7,rfl,hb6,hs6⟩)))
 all_goals
  go_wp2;go_ret;exact ⟨A7,c7,rfl,Z8 (Z8 (Z8 (ZV HB3) hb4) hb5) hb6,hs6⟩
theorem zxi (ux uy vx vy:Int) (fx:Fits 2 ux) (fy:Fits 2 uy) (gx:Fits 2 vx) (gy:Fits 2 vy) (A1 A2 A3 A4:Option Addr) (c1 c2 c3 c4:Nat) (w:World)
 (h1:Sl w w.heap.size A1 (Zm (ZO 2 ux))) (h2:Sl w w.heap.size A2 (Zm (ZO 2 uy))) (h3:Sl w w.heap.size A3 (Zm (ZO 2 vx))) (h4:Sl w w.heap.size A4 (Zm (ZO 2 vy))) :
 Calls prog 298 #[.agg #[.slice A1 2 c1,.slice A2 2 c2],.agg #[.slice A3 2 c3,.slice A4 2 c4]] w (YG 4 (ux*vx+uy*vy) w):=by
 obtain ⟨w0,hw0⟩:=eE ((w.alloc (.cells #[.slice A1 2 c1,.slice A2 2 c2] 284)).alloc (.cells #[.slice A3 2 c3,.slice A4 2 c4] 284));have hb0:=bF hw0;have hz:=hb0.size;have HP:=hide (kL ux uy vx vy fx fy gx gy A1 A2 A3 A4 c1 c2 c3 c4 w0 ((h1.below hb0).more hz) ((h2.below hb0).more hz) ((h3.below hb0).more hz) ((h4.below hb0).more hz));clear h1 h2 h3 h4 fx fy gx gy;go_enter func298,ntmps298;go_wp2_with fail;rw [<- hw0];have HW0:=hide hw0;clear hw0;refine HP.out.mono ?_;rintro e w1 ⟨A5,c5,rfl,hb1,hs⟩;go_wp2;go_ret;exact ⟨A5,c5,rfl,Z8 hb0 hb1,hs⟩
abbrev Pt:=Int × Int
def PJ(p:Pt):Prop:=vO p.1/\vO p.2
def XJ(ux uy vx vy:Int):Int:=ux*vy - uy*vx
def Zw(a b c:Pt):Int:=XJ (b.1 - a.1) (b.2 - a.2) (c.1 - a.1) (c.2 - a.2)
theorem w2:(18446744073709551616:Int) ^ 2=340282366920938463463374607431768211456:=by decide +kernel
theorem w3e:(18446744073709551616:Int) ^ 3=6277101735386680763835789423207666416102355444464034512896:=by decide +kernel
theorem QE{a b:Int}(ha:vO a)(hb:vO b):Fits 2 (a - b):=by
 unfold vO at ha hb;unfold Fits;rw [w2];omega
theorem Vn{a b M N:Int}(h1:-M<=a)(h2:a<=M)(h3:-N<=b)(h4:b<=N):-(M*N)<=a*b/\a*b<=M*N:=by
 have e1:0<=(M - a)*(N+b):=Int.mul_nonneg (by omega) (by omega);have e2:0<=(M+a)*(N - b):=Int.mul_nonneg (by omega) (by omega);have e3:0<=(M - a)*(N - b):=Int.mul_nonneg (by omega) (by omega);have e4:0<=(M+a)*(N+b):=Int.mul_nonneg (by omega) (by omega);rw [Int.sub_mul,Int.mul_add,Int.mul_add] at e1;rw [Int.add_mul,Int.mul_sub,Int.mul_sub] at e2;rw [Int.sub_mul,Int.mul_sub,Int.mul_sub] at e3;rw [Int.add_mul,Int.mul_add,Int.mul_add] at e4;omega
theorem WM{ux uy vx vy:Int}(h1:-18446744073709551615<=ux/\ux<=18446744073709551615)(h2:-18446744073709551615<=uy/\uy<=18446744073709551615)(h3:-18446744073709551615<=vx/\vx<=18446744073709551615)(h4:-18446744073709551615<=vy/\vy<=18446744073709551615):
 -680564733841876926852962238568698216450<=XJ ux uy vx vy/\XJ ux uy vx vy<=680564733841876926852962238568698216450:=by
 have a:=Vn h1.1 h1.2 h4.1 h4.2;have b:=Vn h2.1 h2.2 h3.1 h3.2;unfold XJ;omega
theorem Xh{a b:Int}(ha:vO a)(hb:vO b):-18446744073709551615<=a - b/\a - b<=18446744073709551615:=by unfold vO at ha hb;omega
theorem EB{a b c:Pt}(ha:PJ a)(hb:PJ b)(hc:PJ c):Fits 3 (Zw a b c):=by
 have h:=WM (Xh hb.1 ha.1) (Xh hb.2 ha.2) (Xh hc.1 ha.1) (Xh hc.2 ha.2);unfold Fits Zw;rw [w3e];omega
def Ng(w0:World)(b1 b2 b3:Nat)(x1 y1 x2 y2 x3 y3:Int)(w':World):Prop :=
 Below w0.heap.size w0 w'/\w'.cell? ⟨b1,0,none⟩=some (.int .i64 x1)/\w'.cell? ⟨b1,1,none⟩=some (.int .i64 y1)/\w'.cell? ⟨b2,0,none⟩=some (.int .i64 x2)/\w'.cell? ⟨b2,1,none⟩=some (.int .i64 y2)/\w'.cell? ⟨b3,0,none⟩=some (.int .i64 x3)/\w'.cell? ⟨b3,1,none⟩=some (.int .i64 y3)
theorem Ng.keep{w0 wk w':World}{b1 b2 b3:Nat}{x1 y1 x2 y2 x3 y3:Int}(h:Ng w0 b1 b2 b3 x1 y1 x2 y2 x3 y3 wk)(hb:Below wk.heap.size wk w'):Ng w0 b1 b2 b3 x1 y1 x2 y2 x3 y3 w':=by
 have on:∀ {b o:Nat} {v:Value},wk.cell? ⟨b,o,none⟩=some v->w'.cell? ⟨b,o,none⟩=some v:=fun h=>(hb.cell (p:=⟨_,_,none⟩) (Zz h)).trans h;obtain ⟨h0,h1,h2,h3,h4,h5,h6⟩:=h;exact ⟨Z8 h0 hb,on h1,on h2,on h3,on h4,on h5,on h6⟩
theorem kE(a b c:Pt)(ha:PJ a)(hb:PJ b)(hc:PJ c)(w:World):
 Calls prog 187 #[.agg #[.int .i64 a.1,.int .i64 a.2],.agg #[.int .i64 b.1,.int .i64 b.2],.agg #[.int .i64 c.1,.int .i64 c.2]] w (YG 3 (Zw a b c) w):=by
 obtain ⟨w0,hw0⟩:=eE (((w.alloc (.cells #[.int .i64 a.1,.int .i64 a.2] 41)).alloc (.cells #[.int .i64 b.1,.int .i64 b.2] 41)).alloc (.cells #[.int .i64 c.1,.int .i64 c.2] 41));have hb0:Below w.heap.size w w0:=by rw [hw0];exact Z5 (Z5 (bA) _) _
 have PA:Z7 w0 w.heap.size 41 #[.int .i64 a.1,.int .i64 a.2]:=by rw [hw0];exact ((Z7.new _ _ _).alloc _).alloc _
 have PB:Z7 w0 (w.heap.size+1) 41 #[.int .i64 b.1,.int .i64 b.2]:=by rw [hw0];exact (Z7.new2 _ _ _ _).alloc _
 have PC:Z7 w0 (w.heap.size+1+1) 41 #[.int .i64 c.1,.int .i64 c.2]:=by
  rw [hw0];have h:=Z7.new ((w.alloc (.cells #[.int .i64 a.1,.int .i64 a.2] 41)).alloc (.cells #[.int .i64 b.1,.int .i64 b.2] 41)) 41 #[.int .i64 c.1,.int .i64 c.2];simpa using h
 have HB1:=hide (fun wk=>Vz a.1 a.2 b.1 b.2 ha.1 ha.2 hb.1 hb.2 wk);have HB2:=hide (fun wk=>Vz a.1 a.2 c.1 c.2 ha.1 ha.2 hc.1 hc.2 wk)
 have HCR:Hid (∀ (A1 A2 A3 A4:Option Addr) (c1 c2 c3 c4:Nat) (wk:World),Sl wk wk.heap.size A1 (Zm (ZO 2 (b.1 - a.1)))->Sl wk wk.heap.size A2 (Zm (ZO 2 (b.2 - a.2)))->Sl wk wk.heap.size A3 (Zm (ZO 2 (c.1 - a.1)))->Sl wk wk.heap.size A4 (Zm (ZO 2 (c.2 - a.2))) ->
  Calls prog 249 #[.agg #[.slice A1 2 c1,.slice A2 2 c2],.agg #[.slice A3 2 c3,.slice A4 2 c4]] wk (YG 4 (Zw a b c) wk)) :=
  hide fun A1 A2 A3 A4 c1 c2 c3 c4 wk h1 h2 h3 h4=>Gq _ _ _ _ (QE hb.1 ha.1) (QE hb.2 ha.2) (QE hc.1 ha.1) (QE hc.2 ha.2) A1 A2 A3 A4 c1 c2 c3 c4 wk h1 h2 h3 h4
 have HEX:Hid (∀ (A:Option Addr) (k:Nat) (wk:World),Sl wk wk.heap.size A (Zm (ZO 4 (Zw a b c)))->Calls prog 248 #[.slice A 4 k,.int .i64 3] wk (YG 3 (Zw a b c) wk)) :=
  hide fun A k wk h=>Wx (V6 4 3 _ (.inr (by omega)) (by omega) (by omega) (by omega) (by omega) A k wk h)
 have a0:=PA.q0 rfl;have a1:=PA.q1 rfl;have b0:=PB.q0 rfl;have b1:=PB.q1 rfl;have c0:=PC.q0 rfl;have c1:=PC.q1 rfl;clear ha hb hc;obtain ⟨a,a'⟩:=a;obtain ⟨b,b'⟩:=b;obtain ⟨c,c'⟩:=c;dsimp only at *;have h00:Ng w0 w.heap.size (w.heap.size+1) (w.heap.size+1+1) a a' b b' c c' w0:=⟨Below.refl _ _,a0,a1,b0,b1,c0,c1⟩;have hd0:=h00.keep (ZV (Below.refl _ _));go_enter func187,ntmps187;go_wp2;rw [<- hw0];have HW0:=hide hw0;clear hw0
 go_region_held3 (fun w'=>Below w0.heap.size w0 w'/\w'.cell? ⟨w.heap.size,0,none⟩=some (.int .i64 a)/\w'.cell? ⟨w.heap.size,1,none⟩=some (.int .i64 a')/\w'.cell? ⟨w.heap.size+1,0,none⟩=some (.int .i64 b)/\w'.cell? ⟨w.heap.size+1,1,none⟩=some (.int .i64 b')/\w'.cell? ⟨w.heap.size+1+1,0,none⟩=some (.int .i64 c)/\w'.cell? ⟨w.heap.size+1+1,1,none⟩=some (.int .i64 c'))
  (first|exact hd0|exact h00|exact Ng.keep (by assumption) (by assumption)|exact hd0.keep (by assumption))
  (first
    | (go_at_call 250;((with_reducible refine (HB1.out _).mono ?_);rintro e w' ⟨A1,k1,A2,k2,rfl,hb1,hs1,hs2⟩;unfold Wn))
    | (go_at_call 250;((with_reducible refine (HB2.out _).mono ?_);rintro e w' ⟨A3,k3,A4,k4,rfl,hb2,hs3,hs4⟩;unfold Wn))
    | (go_at_call 249;((with_reducible refine (HCR.out _ _ _ _ _ _ _ _ _ ((hs1.below hb2).more hb2.size) ((hs2.below hb2).more hb2.size) hs3 hs4).mono ?_);rintro e w' ⟨A5,k5,rfl,hb3,hs5⟩))
    | (go_at_call 248;((with_reducible refine (HEX.out _ _ _ hs5).mono ?_);rintro e w' ⟨A6,k6,rfl,hb4,hs6⟩)))
 all_goals
  go_wp2;go_ret;exact ⟨A6,k6,rfl,Z8 (Z8 (Z8 (Z8 (ZV hb0) hb1) hb2) hb3) hb4,hs6⟩
theorem UH.below{w w':World}{B:Nat}(h:UH w)(hb:Below B w w')(hg:8<B):UH w' :=
 ⟨(hb.cell (p:=⟨8,0,none⟩) hg).trans h.1,(hb.cell (p:=⟨8,1,none⟩) hg).trans h.2⟩
def MW(w:World):Prop:=UH w/\8<w.heap.size
theorem MW.step{w w':World}(h:MW w)(hb:Below w.heap.size w w'):MW w':=⟨h.1.below hb h.2,Nat.lt_of_lt_of_le h.2 hb.size⟩
theorem Wh(a b c:Pt)(ha:PJ a)(hb:PJ b)(hc:PJ c)(w:World)(hw:MW w):
 Calls prog 137 #[.agg #[.int .i64 a.1,.int .i64 a.2],.agg #[.int .i64 b.1,.int .i64 b.2],.agg #[.int .i64 c.1,.int .i64 c.2]] w fun e w'=>e=.returned (.int .i64 (Zw a b c).sign)/\Below w.heap.size w w':=by
 obtain ⟨w0,hw0⟩:=eE (((w.alloc (.cells #[.int .i64 a.1,.int .i64 a.2] 41)).alloc (.cells #[.int .i64 b.1,.int .i64 b.2] 41)).alloc (.cells #[.int .i64 c.1,.int .i64 c.2] 41));have hb0:Below w.heap.size w w0:=by rw [hw0];exact Z5 (Z5 (bA) _) _
 have HV:=hide (kE a b c ha hb hc w0);have HF:=hide (EB ha hb hc);have HW:=hide (hw.step hb0);clear ha hb hc hw;go_enter func137,ntmps137;go_wp2_with fail;rw [<- hw0];have HW0:=hide hw0;clear hw0;refine HV.out.mono ?_;rintro e w1 ⟨A1,c1,rfl,hb1,hs1⟩;have hw1:=HW.out.step hb1;have HS:=hide (Vg 3 _ HF.out (by omega) (by omega) A1 c1 w1 hs1 hw1.1 hw1.2);clear hs1 hw1;go_wp2_with fail;refine HS.out.mono ?_;rintro e w2 ⟨rfl,hb2⟩;go_wp2;go_ret;exact ⟨rfl,Z8 (Z8 hb0 hb1) hb2⟩
theorem kr(x y:Int)(fx:Fits 2 x)(fy:Fits 2 y)(A1 A2:Option Addr)(c1 c2:Nat)(w:World)(h1:Sl w w.heap.size A1 (Zm (ZO 2 x)))(h2:Sl w w.heap.size A2 (Zm (ZO 2 y))):
 Calls prog 252 #[.agg #[.slice A1 2 c1,.slice A2 2 c2]] w (YG 4 (x*x+y*y) w):=by
 obtain ⟨w0,hw0⟩:=eE (w.alloc (.cells #[.slice A1 2 c1,.slice A2 2 c2] 284));have hb0:=bE hw0;have hz:=hb0.size;have HP:=hide (zxi x y x y fx fy fx fy A1 A2 A1 A2 c1 c2 c1 c2 w0 ((h1.below hb0).more hz) ((h2.below hb0).more hz) ((h1.below hb0).more hz) ((h2.below hb0).more hz));clear h1 h2 fx fy;go_enter func252,ntmps252;go_wp2_with fail;rw [<- hw0];have HW0:=hide hw0;clear hw0;refine HP.out.mono ?_;rintro e w1 ⟨A5,c5,rfl,hb1,hs⟩;go_wp2;go_ret;exact ⟨A5,c5,rfl,Z8 hb0 hb1,hs⟩
theorem Ju{wk w':World}{cs:Array Value}{t:TypeId}(hb:Below (wk.alloc (.cells cs t)).heap.size (wk.alloc (.cells cs t)) w'):Z7 w' wk.heap.size t cs:=(Z7.new wk t cs).step hb
theorem LY{wk w':World}{cs:Array Value}{t:TypeId}(hb:Below (wk.alloc (.cells cs t)).drew.heap.size (wk.alloc (.cells cs t)).drew w'):Z7 w' wk.heap.size t cs:=(show Z7 (wk.alloc (.cells cs t)).drew wk.heap.size t cs from Z7.new wk t cs).step hb
abbrev Ym(w0:World)(b1 b2 b3 b4:Nat)(x1 y1 x2 y2 x3 y3 x4 y4:Int)(w':World):Prop :=
 Below w0.heap.size w0 w'/\w'.cell? ⟨b1,0,none⟩=some (.int .i64 x1)/\w'.cell? ⟨b1,1,none⟩=some (.int .i64 y1)/\w'.cell? ⟨b2,0,none⟩=some (.int .i64 x2)/\w'.cell? ⟨b2,1,none⟩=some (.int .i64 y2)/\w'.cell? ⟨b3,0,none⟩=some (.int .i64 x3)/\w'.cell? ⟨b3,1,none⟩=some (.int .i64 y3)/\w'.cell? ⟨b4,0,none⟩=some (.int .i64 x4)/\w'.cell? ⟨b4,1,none⟩=some (.int .i64 y4)
theorem Ym.keep{w0 wk w':World}{b1 b2 b3 b4:Nat}{x1 y1 x2 y2 x3 y3 x4 y4:Int}(h:Ym w0 b1 b2 b3 b4 x1 y1 x2 y2 x3 y3 x4 y4 wk)(hb:Below wk.heap.size wk w'):Ym w0 b1 b2 b3 b4 x1 y1 x2 y2 x3 y3 x4 y4 w':=by
 have on:∀ {b o:Nat} {v:Value},wk.cell? ⟨b,o,none⟩=some v->w'.cell? ⟨b,o,none⟩=some v:=fun h=>(hb.cell (p:=⟨_,_,none⟩) (Zz h)).trans h;obtain ⟨h0,h1,h2,h3,h4,h5,h6,h7,h8⟩:=h;exact ⟨Z8 h0 hb,on h1,on h2,on h3,on h4,on h5,on h6,on h7,on h8⟩
theorem Ym.set{w0 wk:World}{b1 b2 b3 b4:Nat}{x1 y1 x2 y2 x3 y3 x4 y4:Int}(hl:b1<w0.heap.size/\b2<w0.heap.size/\b3<w0.heap.size/\b4<w0.heap.size)(h:Ym w0 b1 b2 b3 b4 x1 y1 x2 y2 x3 y3 x4 y4 wk){K:Nat}(hK:w0.heap.size<=K)(o:Nat)(u:Value):
 Ym w0 b1 b2 b3 b4 x1 y1 x2 y2 x3 y3 x4 y4 (wk.setCell ⟨K,o,none⟩ u):=by
 have on:∀ {b o':Nat} {v:Value},b<w0.heap.size->wk.cell? ⟨b,o',none⟩=some v->(wk.setCell ⟨K,o,none⟩ u).cell? ⟨b,o',none⟩=some v:=fun hb h=>by
  rw [World.cell?_of_block (Below.heap_setCell wk ⟨K,o,none⟩ u _ (by dsimp only;omega))];exact h
 obtain ⟨h0,h1,h2,h3,h4,h5,h6,h7,h8⟩:=h;exact ⟨h0.setCell hK u,on hl.1 h1,on hl.1 h2,on hl.2.1 h3,on hl.2.1 h4,on hl.2.2.1 h5,on hl.2.2.1 h6,on hl.2.2.2 h7,on hl.2.2.2 h8⟩
theorem Ym.zdy{w0 wk:World}{b1 b2 b3 b4:Nat}{x1 y1 x2 y2 x3 y3 x4 y4:Int}(hl:b1<w0.heap.size/\b2<w0.heap.size/\b3<w0.heap.size/\b4<w0.heap.size)(h:Ym w0 b1 b2 b3 b4 x1 y1 x2 y2 x3 y3 x4 y4 wk){K:Nat}(hK:w0.heap.size<=K)(u0 u1 u2 u3 u4 u5:Value):
 Ym w0 b1 b2 b3 b4 x1 y1 x2 y2 x3 y3 x4 y4 ((((((wk.setCell ⟨K,0,none⟩ u0).setCell ⟨K,1,none⟩ u1).setCell ⟨K,2,none⟩ u2).setCell ⟨K,3,none⟩ u3).setCell ⟨K,4,none⟩ u4).setCell ⟨K,5,none⟩ u5):=by
 have st:∀ (w1:World) (o:Nat) (u:Value),Ym w0 b1 b2 b3 b4 x1 y1 x2 y2 x3 y3 x4 y4 w1->Ym w0 b1 b2 b3 b4 x1 y1 x2 y2 x3 y3 x4 y4 (w1.setCell ⟨K,o,none⟩ u):=fun w1 o u h=>Ym.set hl h hK o u;exact st _ _ _ (st _ _ _ (st _ _ _ (st _ _ _ (st _ _ _ (st _ _ _ h)))))
theorem Ym.aP{w0 wk:World}{b1 b2 b3 b4:Nat}{x1 y1 x2 y2 x3 y3 x4 y4:Int}(hl:b1<w0.heap.size/\b2<w0.heap.size/\b3<w0.heap.size/\b4<w0.heap.size){X Y:Obj}(h:Ym w0 b1 b2 b3 b4 x1 y1 x2 y2 x3 y3 x4 y4 (wk.alloc Y))(hz:w0.heap.size<=wk.heap.size):
 Ym w0 b1 b2 b3 b4 x1 y1 x2 y2 x3 y3 x4 y4 (wk.alloc X):=by
 have hx:∀ k,k<w0.heap.size->(wk.alloc X).heap[k]?=(wk.alloc Y).heap[k]?:=fun k hk =>
  ((Z5 (Below.refl wk.heap.size wk) X).block k (Nat.lt_of_lt_of_le hk hz)).trans ((Z5 (Below.refl wk.heap.size wk) Y).block k (Nat.lt_of_lt_of_le hk hz)).symm
 have on:∀ {b o:Nat} {v:Value},b<w0.heap.size->(wk.alloc Y).cell? ⟨b,o,none⟩=some v->(wk.alloc X).cell? ⟨b,o,none⟩=some v:=fun hb h=>by
  rw [World.cell?_of_block (hx _ hb)];exact h
 obtain ⟨h0,h1,h2,h3,h4,h5,h6,h7,h8⟩:=h;have h0':Below w0.heap.size w0 (wk.alloc X):=⟨h0.os,h0.tape,h0.output,by have:=h0.size;simpa using this,fun k hk=>(hx k hk).trans (h0.block k hk)⟩;exact ⟨h0',on hl.1 h1,on hl.1 h2,on hl.2.1 h3,on hl.2.1 h4,on hl.2.2.1 h5,on hl.2.2.1 h6,on hl.2.2.2 h7,on hl.2.2.2 h8⟩
def Wt(x y:Int):Int:=x*x+y*y
def Yq(a b c d:Pt):Int :=
 0+Wt (a.1 - d.1) (a.2 - d.2)*XJ (b.1 - d.1) (b.2 - d.2) (c.1 - d.1) (c.2 - d.2)
  + Wt (b.1 - d.1) (b.2 - d.2)*XJ (c.1 - d.1) (c.2 - d.2) (a.1 - d.1) (a.2 - d.2)
  + Wt (c.1 - d.1) (c.2 - d.2)*XJ (a.1 - d.1) (a.2 - d.2) (b.1 - d.1) (b.2 - d.2)
def zdw(t0 t1 t2:Int):Nat->Int
 | 0=>0
 | 1=>0+t0
 | 2=>0+t0+t1
 | _=>0+t0+t1+t2
theorem QZ{ux uy vx vy:Int}(h1:-18446744073709551615<=ux/\ux<=18446744073709551615)(h2:-18446744073709551615<=uy/\uy<=18446744073709551615)(h3:-18446744073709551615<=vx/\vx<=18446744073709551615)(h4:-18446744073709551615<=vy/\vy<=18446744073709551615):Fits 3 (XJ ux uy vx vy):=by
 have h:=WM h1 h2 h3 h4;unfold Fits;rw [w3e];omega
theorem PI{x y:Int}(h1:-18446744073709551615<=x/\x<=18446744073709551615)(h2:-18446744073709551615<=y/\y<=18446744073709551615):Fits 3 (Wt x y):=by
 have a:=Vn h1.1 h1.2 h1.1 h1.2;have b:=Vn h2.1 h2.2 h2.1 h2.2;unfold Fits Wt;rw [w3e];omega
def SF(wx:World)(K:Nat)(v0 v1 v2 v3 v4 v5:Value)(w':World):Prop :=
 Below wx.heap.size wx w'/\w'.cell? ⟨K,0,none⟩=some v0/\w'.cell? ⟨K,1,none⟩=some v1/\w'.cell? ⟨K,2,none⟩=some v2/\w'.cell? ⟨K,3,none⟩=some v3/\w'.cell? ⟨K,4,none⟩=some v4/\w'.cell? ⟨K,5,none⟩=some v5
theorem SF.keep{wx wk w':World}{K:Nat}{v0 v1 v2 v3 v4 v5:Value}(h:SF wx K v0 v1 v2 v3 v4 v5 wk)(hb:Below wk.heap.size wk w'):SF wx K v0 v1 v2 v3 v4 v5 w':=by
 have on:∀ {b o:Nat} {v:Value},wk.cell? ⟨b,o,none⟩=some v->w'.cell? ⟨b,o,none⟩=some v:=fun h=>(hb.cell (p:=⟨_,_,none⟩) (Zz h)).trans h;obtain ⟨h0,h1,h2,h3,h4,h5,h6⟩:=h;exact ⟨Z8 h0 hb,on h1,on h2,on h3,on h4,on h5,on h6⟩
theorem Sl.step{w w':World}{A:Option Addr}{xs:List Value}(h:Sl w w.heap.size A xs)(hb:Below w.heap.size w w'):Sl w' w'.heap.size A xs:=(h.below hb).more hb.size
theorem Sl.Iq{w w':World}{A:Option Addr}{xs:List Value}{o:Obj}(h:Sl w w.heap.size A xs)(hb:Below (w.alloc o).heap.size (w.alloc o) w'):Sl w' w'.heap.size A xs :=
 (h.step (Z5 (Below.refl _ _) o)).step hb
theorem zmx {w:World} {B g:Nat} {A:Option Addr} {l:List Int} {x:Addr} {t:TypeId} (h:Sl w B A (Zm l)) (hl:0<l.length) (hA:A=some x) {v0 v1 v2 v3 v4 v5:Option Addr × Nat × Nat}
 (hb:Z7 w g t #[.slice v0.1 v0.2.1 v0.2.2,.slice v1.1 v1.2.1 v1.2.2,.slice v2.1 v2.2.1 v2.2.2,.slice v3.1 v3.2.1 v3.2.2,.slice v4.1 v4.2.1 v4.2.2,.slice v5.1 v5.2.1 v5.2.2]):x.block≠g:=by
 rintro rfl;obtain ⟨b,off,hA',_,hc⟩:=h.u hl;rw [hA'] at hA;cases hA;obtain ⟨y,hy⟩:∃ y,l[0]?=some y:=⟨_,List.getElem?_eq_getElem hl⟩;have c0:=hc 0 y hy;have hcell:=cell_of_row w b (off+0) _ t (0,0) hb;rw [c0] at hcell;generalize off+0=i at hcell
 match i,hcell with
 | 0,h=>simp at h
 | 1,h=>simp at h
 | 2,h=>simp at h
 | 3,h=>simp at h
 | 4,h=>simp at h
 | 5,h=>simp at h
 | i+6,h=>simp at h
theorem Sl.six {w:World} {B K:Nat} {A:Option Addr} {l:List Int} {t:TypeId} (h:Sl w B A (Zm l)) (hl:0<l.length)
 (hb:Z7 w K t #[.slice none 0 0,.slice none 0 0,.slice none 0 0,.slice none 0 0,.slice none 0 0,.slice none 0 0]) (u0 u1 u2 u3 u4 u5:Value) :
 Sl ((((((w.setCell ⟨K,0,none⟩ u0).setCell ⟨K,1,none⟩ u1).setCell ⟨K,2,none⟩ u2).setCell ⟨K,3,none⟩ u3).setCell ⟨K,4,none⟩ u4).setCell ⟨K,5,none⟩ u5) B A (Zm l):=by
 have hne:∀ (x:Addr),A=some x->x.block≠K:=fun x hx=>zmx (v0:=(none,0,0)) (v1:=(none,0,0)) (v2:=(none,0,0)) (v3:=(none,0,0)) (v4:=(none,0,0)) (v5:=(none,0,0)) h hl hx hb;exact (((((h.far (p:=⟨K,0,none⟩) (fun _ z hz=>hne z hz) u0).far (p:=⟨K,1,none⟩) (fun _ z hz=>hne z hz) u1).far (p:=⟨K,2,none⟩) (fun _ z hz=>hne z hz) u2).far (p:=⟨K,3,none⟩) (fun _ z hz=>hne z hz) u3).far (p:=⟨K,4,none⟩) (fun _ z hz=>hne z hz) u4).far (p:=⟨K,5,none⟩) (fun _ z hz=>hne z hz) u5
theorem zwy {w:World} {K:Nat} {t:TypeId}
 (hb:Z7 w K t #[.slice none 0 0,.slice none 0 0,.slice none 0 0,.slice none 0 0,.slice none 0 0,.slice none 0 0]) (u0 u1 u2 u3 u4 u5:Value) :
 Z7 ((((((w.setCell ⟨K,0,none⟩ u0).setCell ⟨K,1,none⟩ u1).setCell ⟨K,2,none⟩ u2).setCell ⟨K,3,none⟩ u3).setCell ⟨K,4,none⟩ u4).setCell ⟨K,5,none⟩ u5) K t #[u0,u1,u2,u3,u4,u5] :=
 (((((hb.set 0 u0).set 1 u1).set 2 u2).set 3 u3).set 4 u4).set 5 u5
def Laid6(w0 wx:World)(u:Value)(xa ya xb yb xc yc:Int):Prop :=
 ∃ (K:Nat) (A1 A2 A3 A4 A5 A6:Option Addr) (k1 k2 k3 k4 k5 k6:Nat),u=.pointer (some ⟨K,0,none⟩)/\Below w0.heap.size w0 wx/\Z7 wx K 286 #[.slice A1 2 k1,.slice A2 2 k2,.slice A3 2 k3,.slice A4 2 k4,.slice A5 2 k5,.slice A6 2 k6] /\
  (Sl wx wx.heap.size A1 (Zm (ZO 2 xa))/\Sl wx wx.heap.size A2 (Zm (ZO 2 ya)))/\(Sl wx wx.heap.size A3 (Zm (ZO 2 xb))/\Sl wx wx.heap.size A4 (Zm (ZO 2 yb)))/\(Sl wx wx.heap.size A5 (Zm (ZO 2 xc))/\Sl wx wx.heap.size A6 (Zm (ZO 2 yc)))
theorem Fq {w0 w:World} {K:Nat} {xa ya xb yb xc yc:Int} {A1 A2 A3 A4 A5 A6:Option Addr} {k1 k2 k3 k4 k5 k6:Nat}
 (hb:Z7 w K 286 #[.slice none 0 0,.slice none 0 0,.slice none 0 0,.slice none 0 0,.slice none 0 0,.slice none 0 0])
 (hB:Below w0.heap.size w0 ((((((w.setCell ⟨K,0,none⟩ (.slice A1 2 k1)).setCell ⟨K,1,none⟩ (.slice A2 2 k2)).setCell ⟨K,2,none⟩ (.slice A3 2 k3)).setCell ⟨K,3,none⟩ (.slice A4 2 k4)).setCell ⟨K,4,none⟩ (.slice A5 2 k5)).setCell ⟨K,5,none⟩ (.slice A6 2 k6)))
 (h1:Sl w w.heap.size A1 (Zm (ZO 2 xa))) (h2:Sl w w.heap.size A2 (Zm (ZO 2 ya))) (h3:Sl w w.heap.size A3 (Zm (ZO 2 xb))) (h4:Sl w w.heap.size A4 (Zm (ZO 2 yb))) (h5:Sl w w.heap.size A5 (Zm (ZO 2 xc))) (h6:Sl w w.heap.size A6 (Zm (ZO 2 yc))) :
 Laid6 w0 ((((((w.setCell ⟨K,0,none⟩ (.slice A1 2 k1)).setCell ⟨K,1,none⟩ (.slice A2 2 k2)).setCell ⟨K,2,none⟩ (.slice A3 2 k3)).setCell ⟨K,3,none⟩ (.slice A4 2 k4)).setCell ⟨K,4,none⟩ (.slice A5 2 k5)).setCell ⟨K,5,none⟩ (.slice A6 2 k6)) (.pointer (some ⟨K,0,none⟩)) xa ya xb yb xc yc:=by
 have hl:∀ z,0<(ZO 2 z).length:=fun z=>by rw [ZQ];omega
 have six:∀ {A:Option Addr} {z:Int},Sl w w.heap.size A (Zm (ZO 2 z))->Sl ((((((w.setCell ⟨K,0,none⟩ (.slice A1 2 k1)).setCell ⟨K,1,none⟩ (.slice A2 2 k2)).setCell ⟨K,2,none⟩ (.slice A3 2 k3)).setCell ⟨K,3,none⟩ (.slice A4 2 k4)).setCell ⟨K,4,none⟩ (.slice A5 2 k5)).setCell ⟨K,5,none⟩ (.slice A6 2 k6)) ((((((w.setCell ⟨K,0,none⟩ (.slice A1 2 k1)).setCell ⟨K,1,none⟩ (.slice A2 2 k2)).setCell ⟨K,2,none⟩ (.slice A3 2 k3)).setCell ⟨K,3,none⟩ (.slice A4 2 k4)).setCell ⟨K,4,none⟩ (.slice A5 2 k5)).setCell ⟨K,5,none⟩ (.slice A6 2 k6)).heap.size A (Zm (ZO 2 z)):=fun h=>by
  have h':=h.six (hl _) hb (.slice A1 2 k1) (.slice A2 2 k2) (.slice A3 2 k3) (.slice A4 2 k4) (.slice A5 2 k5) (.slice A6 2 k6);simpa only [World.size_setCell] using h'
 exact ⟨K,A1,A2,A3,A4,A5,A6,k1,k2,k3,k4,k5,k6,rfl,hB,zwy hb _ _ _ _ _ _,⟨six h1,six h2⟩,⟨six h3,six h4⟩,⟨six h5,six h6⟩⟩
theorem yg {w0 w:World} {xa ya xb yb xc yc:Int} {A1 A2 A3 A4 A5 A6:Option Addr} {k1 k2 k3 k4 k5 k6:Nat}
 (hB:Below w0.heap.size w0 (w.alloc (.cells #[.slice A1 2 k1,.slice A2 2 k2,.slice A3 2 k3,.slice A4 2 k4,.slice A5 2 k5,.slice A6 2 k6] 286)))
 (h1:Sl w w.heap.size A1 (Zm (ZO 2 xa))) (h2:Sl w w.heap.size A2 (Zm (ZO 2 ya))) (h3:Sl w w.heap.size A3 (Zm (ZO 2 xb))) (h4:Sl w w.heap.size A4 (Zm (ZO 2 yb))) (h5:Sl w w.heap.size A5 (Zm (ZO 2 xc))) (h6:Sl w w.heap.size A6 (Zm (ZO 2 yc))) :
 Laid6 w0 (w.alloc (.cells #[.slice A1 2 k1,.slice A2 2 k2,.slice A3 2 k3,.slice A4 2 k4,.slice A5 2 k5,.slice A6 2 k6] 286)) (.pointer (some ⟨w.heap.size,0,none⟩)) xa ya xb yb xc yc :=
 have al:=Z5 (Below.refl w.heap.size w) (.cells #[.slice A1 2 k1,.slice A2 2 k2,.slice A3 2 k3,.slice A4 2 k4,.slice A5 2 k5,.slice A6 2 k6] 286)
 ⟨w.heap.size,A1,A2,A3,A4,A5,A6,k1,k2,k3,k4,k5,k6,rfl,hB,Z7.new _ _ _,⟨h1.step al,h2.step al⟩,⟨h3.step al,h4.step al⟩,⟨h5.step al,h6.step al⟩⟩
theorem gD(a b c d:Pt)(ha:PJ a)(hb:PJ b)(hc:PJ c)(hd:PJ d)(w:World):
 Calls prog 188 #[.agg #[.int .i64 a.1,.int .i64 a.2],.agg #[.int .i64 b.1,.int .i64 b.2],.agg #[.int .i64 c.1,.int .i64 c.2],.agg #[.int .i64 d.1,.int .i64 d.2]] w (YG 5 (Yq a b c d) w):=by
 obtain ⟨w0,hw0⟩:=eE ((((w.alloc (.cells #[.int .i64 a.1,.int .i64 a.2] 41)).alloc (.cells #[.int .i64 b.1,.int .i64 b.2] 41)).alloc (.cells #[.int .i64 c.1,.int .i64 c.2] 41)).alloc (.cells #[.int .i64 d.1,.int .i64 d.2] 41));have hb0:Below w.heap.size w w0:=by rw [hw0];exact Z5 (Z5 (Z5 (bA) _) _) _
 have PA:Z7 w0 w.heap.size 41 #[.int .i64 a.1,.int .i64 a.2]:=by rw [hw0];exact (((Z7.new _ _ _).alloc _).alloc _).alloc _
 have PB:Z7 w0 (w.heap.size+1) 41 #[.int .i64 b.1,.int .i64 b.2]:=by rw [hw0];exact ((Z7.new2 _ _ _ _).alloc _).alloc _
 have PC:Z7 w0 (w.heap.size+1+1) 41 #[.int .i64 c.1,.int .i64 c.2]:=by
  rw [hw0];have h:=Z7.new ((w.alloc (.cells #[.int .i64 a.1,.int .i64 a.2] 41)).alloc (.cells #[.int .i64 b.1,.int .i64 b.2] 41)) 41 #[.int .i64 c.1,.int .i64 c.2];have h2:=h.alloc (.cells #[.int .i64 d.1,.int .i64 d.2] 41);simpa using h2
 have PD4:Z7 w0 (w.heap.size+1+1+1) 41 #[.int .i64 d.1,.int .i64 d.2]:=by
  rw [hw0];have h:=Z7.new (((w.alloc (.cells #[.int .i64 a.1,.int .i64 a.2] 41)).alloc (.cells #[.int .i64 b.1,.int .i64 b.2] 41)).alloc (.cells #[.int .i64 c.1,.int .i64 c.2] 41)) 41 #[.int .i64 d.1,.int .i64 d.2];simpa using h
 have HB1:=hide (fun wk=>Vz d.1 d.2 a.1 a.2 hd.1 hd.2 ha.1 ha.2 wk);have HB2:=hide (fun wk=>Vz d.1 d.2 b.1 b.2 hd.1 hd.2 hb.1 hb.2 wk);have HB3:=hide (fun wk=>Vz d.1 d.2 c.1 c.2 hd.1 hd.2 hc.1 hc.2 wk);have hl:w.heap.size<w0.heap.size/\w.heap.size+1<w0.heap.size/\w.heap.size+1+1<w0.heap.size/\w.heap.size+1+1+1<w0.heap.size:=⟨PA.lt,PB.lt,PC.lt,PD4.lt⟩;have h00:Ym w0 w.heap.size (w.heap.size+1) (w.heap.size+1+1) (w.heap.size+1+1+1) a.1 a.2 b.1 b.2 c.1 c.2 d.1 d.2 w0:=⟨Below.refl _ _,PA.q0 rfl,PA.q1 rfl,PB.q0 rfl,PB.q1 rfl,PC.q0 rfl,PC.q1 rfl,PD4.q0 rfl,PD4.q1 rfl⟩
 have RY:Hid (∀ (A1 A2:Option Addr) (c1 c2:Nat) (x y:Int) (wk:World),(-18446744073709551615<=x/\x<=18446744073709551615)->(-18446744073709551615<=y/\y<=18446744073709551615)->Sl wk wk.heap.size A1 (Zm (ZO 2 x))->Sl wk wk.heap.size A2 (Zm (ZO 2 y)) ->
  Calls prog 252 #[.agg #[.slice A1 2 c1,.slice A2 2 c2]] wk (YG 4 (Wt x y) wk)) :=
  hide fun A1 A2 c1 c2 x y wk hx hy h1 h2=>kr x y (by unfold Fits;rw [w2];omega) (by unfold Fits;rw [w2];omega) A1 A2 c1 c2 wk h1 h2
 have HCR:Hid (∀ (A1 A2 A3 A4:Option Addr) (c1 c2 c3 c4:Nat) (ux uy vx vy:Int) (wk:World),(-18446744073709551615<=ux/\ux<=18446744073709551615)->(-18446744073709551615<=uy/\uy<=18446744073709551615)->(-18446744073709551615<=vx/\vx<=18446744073709551615)->(-18446744073709551615<=vy/\vy<=18446744073709551615)->Sl wk wk.heap.size A1 (Zm (ZO 2 ux))->Sl wk wk.heap.size A2 (Zm (ZO 2 uy))->Sl wk wk.heap.size A3 (Zm (ZO 2 vx))->Sl wk wk.heap.size A4 (Zm (ZO 2 vy)) ->
  Calls prog 249 #[.agg #[.slice A1 2 c1,.slice A2 2 c2],.agg #[.slice A3 2 c3,.slice A4 2 c4]] wk (YG 4 (XJ ux uy vx vy) wk)) :=
  hide fun A1 A2 A3 A4 c1 c2 c3 c4 ux uy vx vy wk b1 b2 b3 b4 h1 h2 h3 h4=>Gq _ _ _ _ (by unfold Fits;rw [w2];omega) (by unfold Fits;rw [w2];omega) (by unfold Fits;rw [w2];omega) (by unfold Fits;rw [w2];omega) A1 A2 A3 A4 c1 c2 c3 c4 wk h1 h2 h3 h4
 have mW:Hid (∀ (A:Option Addr) (k:Nat) (v:Int) (wk:World),Sl wk wk.heap.size A (Zm (ZO 4 v))->Calls prog 248 #[.slice A 4 k,.int .i64 3] wk (YG 3 v wk)) :=
  hide fun A k v wk h=>Wx (V6 4 3 _ (.inr (by omega)) (by omega) (by omega) (by omega) (by omega) A k wk h)
 have HX5:Hid (∀ (A:Option Addr) (k:Nat) (v:Int) (wk:World),Sl wk wk.heap.size A (Zm (ZO 6 v))->Calls prog 248 #[.slice A 6 k,.int .i64 5] wk (YG 5 v wk)) :=
  hide fun A k v wk h=>Wx (V6 6 5 _ (.inr (by omega)) (by omega) (by omega) (by omega) (by omega) A k wk h)
 have HMU:Hid (∀ (A A':Option Addr) (k k':Nat) (x y:Int) (wk:World),Fits 3 x->Fits 3 y->Sl wk wk.heap.size A (Zm (ZO 3 x))->Sl wk wk.heap.size A' (Zm (ZO 3 y))->Calls prog 254 #[.slice A 3 k,.slice A' 3 k'] wk (YG 6 (x*y) wk)) :=
  hide fun A A' k k' x y wk hx hy h h'=>Wx (Rl 3 3 x y (by omega) (by omega) (by omega) hx hy A A' k k' wk h h')
 have HAD:Hid (∀ (A A':Option Addr) (k k':Nat) (x y:Int) (wk:World),Sl wk wk.heap.size A (Zm (ZO 5 x))->Sl wk wk.heap.size A' (Zm (ZO 5 y))->Calls prog 253 #[.slice A 5 k,.slice A' 5 k'] wk (YG 5 (x+y) wk)) :=
  hide fun A A' k k' x y wk h h'=>Wx (Cm 5 x y (by omega) (by omega) A A' k k' wk h h')
 have HFR:Hid (∀ wk,Calls prog 251 #[.int .i64 0,.int .i64 5] wk (YG 5 0 wk)):=hide fun wk=>Wx (J8 0 (by omega) (by omega) 5 (by omega) (by omega) wk)
 have Xe:=hide (show ((-18446744073709551615<=a.1 - d.1/\a.1 - d.1<=18446744073709551615)/\(-18446744073709551615<=a.2 - d.2/\a.2 - d.2<=18446744073709551615))/\((-18446744073709551615<=b.1 - d.1/\b.1 - d.1<=18446744073709551615)/\(-18446744073709551615<=b.2 - d.2/\b.2 - d.2<=18446744073709551615))/\((-18446744073709551615<=c.1 - d.1/\c.1 - d.1<=18446744073709551615)/\(-18446744073709551615<=c.2 - d.2/\c.2 - d.2<=18446744073709551615)) from
  ⟨⟨Xh ha.1 hd.1,Xh ha.2 hd.2⟩,⟨Xh hb.1 hd.1,Xh hb.2 hd.2⟩,⟨Xh hc.1 hd.1,Xh hc.2 hd.2⟩⟩)
 have HL:=hide hl;clear ha hb hc hd hl PA PB PC PD4;obtain ⟨a,a'⟩:=a;obtain ⟨b,b'⟩:=b;obtain ⟨c,c'⟩:=c;obtain ⟨d,d'⟩:=d;dsimp only at *;have hd0:=h00.keep (ZV (Below.refl _ _));go_enter func188,ntmps188;go_wp2;rw [<- hw0];have HW0:=hide hw0;clear hw0
 go_cut [9] from 14 to 23 (fun u wx=>Laid6 w0 wx u (a - d) (a' - d') (b - d) (b' - d') (c - d) (c' - d'))
 case first =>
  go_region_held3 (fun w'=>Below w0.heap.size w0 w'/\w'.cell? ⟨w.heap.size,0,none⟩=some (.int .i64 a)/\w'.cell? ⟨w.heap.size,1,none⟩=some (.int .i64 a')/\w'.cell? ⟨w.heap.size+1,0,none⟩=some (.int .i64 b)/\w'.cell? ⟨w.heap.size+1,1,none⟩=some (.int .i64 b')/\w'.cell? ⟨w.heap.size+1+1,0,none⟩=some (.int .i64 c)/\w'.cell? ⟨w.heap.size+1+1,1,none⟩=some (.int .i64 c')/\w'.cell? ⟨w.heap.size+1+1+1,0,none⟩=some (.int .i64 d)/\w'.cell? ⟨w.heap.size+1+1+1,1,none⟩=some (.int .i64 d'))
   (first|with_reducible exact Ym.zdy HL.out (by assumption) (by have z1:=hb1.size;have z2:=hb2.size;have z3:=hb3.size;simp only [World.drew] at z1 z2 z3;omega) _ _ _ _ _ _|with_reducible exact hd0|with_reducible exact h00|with_reducible exact Ym.keep (by assumption) (by assumption)|with_reducible exact hd0.keep (by assumption)|with_reducible exact Ym.keep (by assumption) (bA)|with_reducible exact hd0.keep (bA)|with_reducible exact Ym.aP HL.out (by assumption) (by have z1:=hb1.size;have z2:=hb2.size;have z3:=hb3.size;simp only [World.drew] at z1 z2 z3;omega))
   (first
     | (go_at_call 250;((with_reducible refine (HB1.out _).mono ?_);rintro e w' ⟨A1,k1,A2,k2,rfl,hb1,hs1,hs2⟩;unfold Wn;(first|(have hN:=LY hb1;have z0:=hN.q0 rfl;have z1:=hN.q1 rfl;have z2:=hN.q2 rfl;have z3:=hN.q3 rfl;have z4:=hN.q4 rfl;have z5:=hN.q5 rfl;have y0:=hN.frozen 0;have y1:=hN.frozen 1;have y2:=hN.frozen 2;have y3:=hN.frozen 3;have y4:=hN.frozen 4;have y5:=hN.frozen 5)|skip)))
     | (go_at_call 250;((with_reducible refine (HB2.out _).mono ?_);rintro e w' ⟨A3,k3,A4,k4,rfl,hb2,hs3,hs4⟩;unfold Wn;(first|(have hN:=Ju hb2;have z0:=hN.q0 rfl;have z1:=hN.q1 rfl;have z2:=hN.q2 rfl;have z3:=hN.q3 rfl;have z4:=hN.q4 rfl;have z5:=hN.q5 rfl;have y0:=hN.frozen 0;have y1:=hN.frozen 1;have y2:=hN.frozen 2;have y3:=hN.frozen 3;have y4:=hN.frozen 4;have y5:=hN.frozen 5)|(have hN:=hN.step hb2;have z0:=hN.q0 rfl;have z1:=hN.q1 rfl;have z2:=hN.q2 rfl;have z3:=hN.q3 rfl;have z4:=hN.q4 rfl;have z5:=hN.q5 rfl;have y0:=hN.frozen 0;have y1:=hN.frozen 1;have y2:=hN.frozen 2;have y3:=hN.frozen 3;have y4:=hN.frozen 4;have y5:=hN.frozen 5)|skip)))
     | (go_at_call 250;((with_reducible refine (HB3.out _).mono ?_);rintro e w' ⟨A5,k5,A6,k6,rfl,hb3,hs5,hs6⟩;unfold Wn;(first|(have hN:=Ju hb3;have z0:=hN.q0 rfl;have z1:=hN.q1 rfl;have z2:=hN.q2 rfl;have z3:=hN.q3 rfl;have z4:=hN.q4 rfl;have z5:=hN.q5 rfl;have y0:=hN.frozen 0;have y1:=hN.frozen 1;have y2:=hN.frozen 2;have y3:=hN.frozen 3;have y4:=hN.frozen 4;have y5:=hN.frozen 5)|(have hN:=hN.step hb3;have z0:=hN.q0 rfl;have z1:=hN.q1 rfl;have z2:=hN.q2 rfl;have z3:=hN.q3 rfl;have z4:=hN.q4 rfl;have z5:=hN.q5 rfl;have y0:=hN.frozen 0;have y1:=hN.frozen 1;have y2:=hN.frozen 2;have y3:=hN.frozen 3;have y4:=hN.frozen 4;have y5:=hN.frozen 5)|skip))))
  all_goals
   have g1:=(by first|with_reducible exact hs1.step hb2|with_reducible exact hs1.Iq hb2:Sl _ _ A1 (Zm (ZO 2 (a - d))));have g2:=(by first|with_reducible exact hs2.step hb2|with_reducible exact hs2.Iq hb2:Sl _ _ A2 (Zm (ZO 2 (a' - d'))));have f1:=(by first|with_reducible exact g1.step hb3|with_reducible exact g1.Iq hb3:Sl _ _ A1 (Zm (ZO 2 (a - d))));have f2:=(by first|with_reducible exact g2.step hb3|with_reducible exact g2.Iq hb3:Sl _ _ A2 (Zm (ZO 2 (a' - d'))));have f3:=(by first|with_reducible exact hs3.step hb3|with_reducible exact hs3.Iq hb3:Sl _ _ A3 (Zm (ZO 2 (b - d))));have f4:=(by first|with_reducible exact hs4.step hb3|with_reducible exact hs4.Iq hb3:Sl _ _ A4 (Zm (ZO 2 (b' - d'))))
   rename_i Uf
   have hBB:=Uf.1
   (first|(with_reducible have FIN:=hide (Fq hN hBB f1 f2 f3 f4 hs5 hs6))|(with_reducible have FIN:=hide (yg hBB f1 f2 f3 f4 hs5 hs6)))
   clear Uf hBB f1 f2 f3 f4 g1 g2 hs1 hs2 hs3 hs4 hs5 hs6 hb1 hb2 hb3
  all_goals go_wp2_with fail
  all_goals go_meet
  all_goals exact FIN.out
 case rest =>
  obtain ⟨K,A1,A2,A3,A4,A5,A6,k1,k2,k3,k4,k5,k6,rfl,hbx,RB0,⟨s1,s2⟩,⟨s3,s4⟩,⟨s5,s6⟩⟩:=hcut;have RB:=hide RB0
  have HN0:Hid (∀ wk,Below wc.heap.size wc wk->Calls prog 252 #[.agg #[.slice A1 2 k1,.slice A2 2 k2]] wk (YG 4 (Wt (a - d) (a' - d')) wk)) :=
   hide fun wk hk=>RY.out A1 A2 k1 k2 _ _ wk Xe.out.1.1 Xe.out.1.2 (s1.step hk) (s2.step hk)
  have Jo:Hid (∀ wk,Below wc.heap.size wc wk->Calls prog 249 #[.agg #[.slice A3 2 k3,.slice A4 2 k4],.agg #[.slice A5 2 k5,.slice A6 2 k6]] wk (YG 4 (XJ (b - d) (b' - d') (c - d) (c' - d')) wk)) :=
   hide fun wk hk=>HCR.out A3 A4 A5 A6 k3 k4 k5 k6 _ _ _ _ wk Xe.out.2.1.1 Xe.out.2.1.2 Xe.out.2.2.1 Xe.out.2.2.2 (s3.step hk) (s4.step hk) (s5.step hk) (s6.step hk)
  have bW:Hid (Fits 3 (Wt (a - d) (a' - d'))/\Fits 3 (XJ (b - d) (b' - d') (c - d) (c' - d'))):=hide ⟨PI Xe.out.1.1 Xe.out.1.2,QZ Xe.out.2.1.1 Xe.out.2.1.2 Xe.out.2.2.1 Xe.out.2.2.2⟩
  have dW:Hid (∀ wk,Below wc.heap.size wc wk->Calls prog 252 #[.agg #[.slice A3 2 k3,.slice A4 2 k4]] wk (YG 4 (Wt (b - d) (b' - d')) wk)) :=
   hide fun wk hk=>RY.out A3 A4 k3 k4 _ _ wk Xe.out.2.1.1 Xe.out.2.1.2 (s3.step hk) (s4.step hk)
  have nJ:Hid (∀ wk,Below wc.heap.size wc wk->Calls prog 249 #[.agg #[.slice A5 2 k5,.slice A6 2 k6],.agg #[.slice A1 2 k1,.slice A2 2 k2]] wk (YG 4 (XJ (c - d) (c' - d') (a - d) (a' - d')) wk)) :=
   hide fun wk hk=>HCR.out A5 A6 A1 A2 k5 k6 k1 k2 _ _ _ _ wk Xe.out.2.2.1 Xe.out.2.2.2 Xe.out.1.1 Xe.out.1.2 (s5.step hk) (s6.step hk) (s1.step hk) (s2.step hk)
  have HF1:Hid (Fits 3 (Wt (b - d) (b' - d'))/\Fits 3 (XJ (c - d) (c' - d') (a - d) (a' - d'))):=hide ⟨PI Xe.out.2.1.1 Xe.out.2.1.2,QZ Xe.out.2.2.1 Xe.out.2.2.2 Xe.out.1.1 Xe.out.1.2⟩
  have HN2:Hid (∀ wk,Below wc.heap.size wc wk->Calls prog 252 #[.agg #[.slice A5 2 k5,.slice A6 2 k6]] wk (YG 4 (Wt (c - d) (c' - d')) wk)) :=
   hide fun wk hk=>RY.out A5 A6 k5 k6 _ _ wk Xe.out.2.2.1 Xe.out.2.2.2 (s5.step hk) (s6.step hk)
  have nK:Hid (∀ wk,Below wc.heap.size wc wk->Calls prog 249 #[.agg #[.slice A1 2 k1,.slice A2 2 k2],.agg #[.slice A3 2 k3,.slice A4 2 k4]] wk (YG 4 (XJ (a - d) (a' - d') (b - d) (b' - d')) wk)) :=
   hide fun wk hk=>HCR.out A1 A2 A3 A4 k1 k2 k3 k4 _ _ _ _ wk Xe.out.1.1 Xe.out.1.2 Xe.out.2.1.1 Xe.out.2.1.2 (s1.step hk) (s2.step hk) (s3.step hk) (s4.step hk)
  have HF2:Hid (Fits 3 (Wt (c - d) (c' - d'))/\Fits 3 (XJ (a - d) (a' - d') (b - d) (b' - d'))):=hide ⟨PI Xe.out.2.2.1 Xe.out.2.2.2,QZ Xe.out.1.1 Xe.out.1.2 Xe.out.2.1.1 Xe.out.2.1.2⟩;have Nb:=hide (Z8 hb0 hbx);clear s1 s2 s3 s4 s5 s6 RB0 Xe RY HCR HB1 HB2 HB3 h00 hd0 hbx hb0 HL;go_wp2_with fail;refine (HFR.out _).mono ?_;rintro e w1 ⟨A0,k0,rfl,hb1,hs0⟩;go_wp2
  go_loopw [10,25] (fun u i wr=>∃ (q:Int) (A:Option Addr) (kc:Nat),0<=q/\q<=3/\i=.int .i64 q/\u=.slice A 5 kc/\Below wc.heap.size wc wr/\Sl wr wr.heap.size A (Zm (ZO 5 (zdw (Wt (a - d) (a' - d')*XJ (b - d) (b' - d') (c - d) (c' - d')) (Wt (b - d) (b' - d')*XJ (c - d) (c' - d') (a - d) (a' - d')) (Wt (c - d) (c' - d')*XJ (a - d) (a' - d') (b - d) (b' - d')) q.toNat))))
   (fun _ i _=>3 - (intOf i).toNat)
  case atStart=>exact ⟨0,A0,k0,by omega,by omega,rfl,rfl,hb1,hs0⟩
  case round =>
   clear hb1 hs0;obtain ⟨q,A,kc,hq0,hq3,rfl,rfl,hbr,hsr⟩:=hrel;have hk4:q=0\/q=1\/q=2\/q=3:=(by omega);clear hq0 hq3;rcases hk4 with rfl|rfl|rfl|rfl
   · -- round 0
     have RW:=RB.out.step hbr;have z0:wr.cell? ⟨K,0,none⟩=some (.slice A1 2 k1):=RW.q0 rfl;have z1:wr.cell? ⟨K,1,none⟩=some (.slice A2 2 k2):=RW.q1 rfl;have z2:wr.cell? ⟨K,2,none⟩=some (.slice A3 2 k3):=RW.q2 rfl;have z3:wr.cell? ⟨K,3,none⟩=some (.slice A4 2 k4):=RW.q3 rfl;have z4:wr.cell? ⟨K,4,none⟩=some (.slice A5 2 k5):=RW.q4 rfl;have z5:wr.cell? ⟨K,5,none⟩=some (.slice A6 2 k6):=RW.q5 rfl;have hd6:=SF.keep (wx:=wc) (K:=K) ⟨hbr,z0,z1,z2,z3,z4,z5⟩ (ZV (Below.refl _ _));have hbd:=ZV hbr;have q1:(IntKind.i64.wrap 1).tmod 3=1:=(by decide);have q2:(IntKind.i64.wrap 2).tmod 3=2:=(by decide);clear RW;go_wp2_with fail
     go_region_held3 (fun w'=>Below wc.heap.size wc w'/\w'.cell? ⟨K,0,none⟩=some (.slice A1 2 k1)/\w'.cell? ⟨K,1,none⟩=some (.slice A2 2 k2)/\w'.cell? ⟨K,2,none⟩=some (.slice A3 2 k3)/\w'.cell? ⟨K,3,none⟩=some (.slice A4 2 k4)/\w'.cell? ⟨K,4,none⟩=some (.slice A5 2 k5)/\w'.cell? ⟨K,5,none⟩=some (.slice A6 2 k6))
      (first|exact hd6|exact SF.keep (by assumption) (by assumption)|exact hd6.keep (by assumption))
      (first
        | (go_at_call 249;((with_reducible refine (Jo.out _ hbd).mono ?_);rintro e w' ⟨A7,k7,rfl,hb2,hs7⟩))
        | (go_at_call 248;((with_reducible refine (mW.out _ _ _ _ hs7).mono ?_);rintro e w' ⟨A8,k8,rfl,hb3,uD⟩)))
     rename_i w2 Uf
     obtain ⟨w3,hw3⟩:=eE w';subst hw3;clear Uf z0 z1 z2 z3 z4 z5 hd6 q1 q2;have hB3:=Z8 (Z8 hbd hb2) hb3;have RW:=RB.out.step hB3;have z0:w3.cell? ⟨K,0,none⟩=some (.slice A1 2 k1):=RW.q0 rfl;have z1:w3.cell? ⟨K,1,none⟩=some (.slice A2 2 k2):=RW.q1 rfl;have z2:w3.cell? ⟨K,2,none⟩=some (.slice A3 2 k3):=RW.q2 rfl;have z3:w3.cell? ⟨K,3,none⟩=some (.slice A4 2 k4):=RW.q3 rfl;have z4:w3.cell? ⟨K,4,none⟩=some (.slice A5 2 k5):=RW.q4 rfl;have z5:w3.cell? ⟨K,5,none⟩=some (.slice A6 2 k6):=RW.q5 rfl;have hsA:=hide (((hsr.drew.step (w:=wr.drew) hb2).step hb3));have hsM:=hide uD;clear RW hbr hbd hs7 uD hsr hb2 hb3;go_wp2_with fail;refine (HN0.out _ hB3).mono ?_;rintro e w4 ⟨A9,k9,rfl,hb4,uE⟩;clear z0 z1 z2 z3 z4 z5;go_wp2_with fail;refine (mW.out _ _ _ _ uE).mono ?_;rintro e w5 ⟨A10,k10,rfl,hb5,Sc⟩;have hM5:=hide ((hsM.out.step hb4).step hb5);have hA5:=hide ((hsA.out.step hb4).step hb5);have uj:=Z8 (Z8 hB3 hb4) hb5;clear hsM hsA hb4 hb5 hB3 uE;have C1:=hide (HMU.out _ _ k10 k8 _ _ _ bW.out.1 bW.out.2 Sc hM5.out);clear Sc;go_wp2_with fail;refine C1.out.mono ?_;rintro e w6 ⟨A11,k11,rfl,hb6,Ox⟩;have C2:=hide (HX5.out _ k11 _ _ Ox);clear Ox hM5;go_wp2_with fail;refine C2.out.mono ?_;rintro e w7 ⟨A12,k12,rfl,Qh,Nz⟩;have C3:=hide (HAD.out _ _ kc k12 _ _ _ ((hA5.out.step hb6).step Qh) Nz);clear Nz hA5;go_wp2_with fail;refine C3.out.mono ?_;rintro e w8 ⟨A13,k13,rfl,Ou,BL⟩;have hB8:=Z8 (Z8 (Z8 uj hb6) Qh) Ou;have vL:=hide BL;clear BL hb6 Qh Ou uj C1 C2 C3;go_wp2;go_roundw
     case rel=>exact ⟨1,A13,k13,by omega,by omega,rfl,rfl,hB8,vL.out⟩
     case measure=>simp [intOf]
   · -- round 1
     have RW:=RB.out.step hbr;have z0:wr.cell? ⟨K,0,none⟩=some (.slice A1 2 k1):=RW.q0 rfl;have z1:wr.cell? ⟨K,1,none⟩=some (.slice A2 2 k2):=RW.q1 rfl;have z2:wr.cell? ⟨K,2,none⟩=some (.slice A3 2 k3):=RW.q2 rfl;have z3:wr.cell? ⟨K,3,none⟩=some (.slice A4 2 k4):=RW.q3 rfl;have z4:wr.cell? ⟨K,4,none⟩=some (.slice A5 2 k5):=RW.q4 rfl;have z5:wr.cell? ⟨K,5,none⟩=some (.slice A6 2 k6):=RW.q5 rfl;have hd6:=SF.keep (wx:=wc) (K:=K) ⟨hbr,z0,z1,z2,z3,z4,z5⟩ (ZV (Below.refl _ _));have hbd:=ZV hbr;have q1:(IntKind.i64.wrap 2).tmod 3=2:=(by decide);have q2:(IntKind.i64.wrap 3).tmod 3=0:=(by decide);clear RW;go_wp2_with fail
     go_region_held3 (fun w'=>Below wc.heap.size wc w'/\w'.cell? ⟨K,0,none⟩=some (.slice A1 2 k1)/\w'.cell? ⟨K,1,none⟩=some (.slice A2 2 k2)/\w'.cell? ⟨K,2,none⟩=some (.slice A3 2 k3)/\w'.cell? ⟨K,3,none⟩=some (.slice A4 2 k4)/\w'.cell? ⟨K,4,none⟩=some (.slice A5 2 k5)/\w'.cell? ⟨K,5,none⟩=some (.slice A6 2 k6))
      (first|exact hd6|exact SF.keep (by assumption) (by assumption)|exact hd6.keep (by assumption))
      (first
        | (go_at_call 249;((with_reducible refine (nJ.out _ hbd).mono ?_);rintro e w' ⟨A7,k7,rfl,hb2,hs7⟩))
        | (go_at_call 248;((with_reducible refine (mW.out _ _ _ _ hs7).mono ?_);rintro e w' ⟨A8,k8,rfl,hb3,uD⟩)))
     rename_i w2 Uf
     obtain ⟨w3,hw3⟩:=eE w';subst hw3;clear Uf z0 z1 z2 z3 z4 z5 hd6 q1 q2;have hB3:=Z8 (Z8 hbd hb2) hb3;have RW:=RB.out.step hB3;have z0:w3.cell? ⟨K,0,none⟩=some (.slice A1 2 k1):=RW.q0 rfl;have z1:w3.cell? ⟨K,1,none⟩=some (.slice A2 2 k2):=RW.q1 rfl;have z2:w3.cell? ⟨K,2,none⟩=some (.slice A3 2 k3):=RW.q2 rfl;have z3:w3.cell? ⟨K,3,none⟩=some (.slice A4 2 k4):=RW.q3 rfl;have z4:w3.cell? ⟨K,4,none⟩=some (.slice A5 2 k5):=RW.q4 rfl;have z5:w3.cell? ⟨K,5,none⟩=some (.slice A6 2 k6):=RW.q5 rfl;have hsA:=hide (((hsr.drew.step (w:=wr.drew) hb2).step hb3));have hsM:=hide uD;clear RW hbr hbd hs7 uD hsr hb2 hb3;go_wp2_with fail;refine (dW.out _ hB3).mono ?_;rintro e w4 ⟨A9,k9,rfl,hb4,uE⟩;clear z0 z1 z2 z3 z4 z5;go_wp2_with fail;refine (mW.out _ _ _ _ uE).mono ?_;rintro e w5 ⟨A10,k10,rfl,hb5,Sc⟩;have hM5:=hide ((hsM.out.step hb4).step hb5);have hA5:=hide ((hsA.out.step hb4).step hb5);have uj:=Z8 (Z8 hB3 hb4) hb5;clear hsM hsA hb4 hb5 hB3 uE;have C1:=hide (HMU.out _ _ k10 k8 _ _ _ HF1.out.1 HF1.out.2 Sc hM5.out);clear Sc;go_wp2_with fail;refine C1.out.mono ?_;rintro e w6 ⟨A11,k11,rfl,hb6,Ox⟩;have C2:=hide (HX5.out _ k11 _ _ Ox);clear Ox hM5;go_wp2_with fail;refine C2.out.mono ?_;rintro e w7 ⟨A12,k12,rfl,Qh,Nz⟩;have C3:=hide (HAD.out _ _ kc k12 _ _ _ ((hA5.out.step hb6).step Qh) Nz);clear Nz hA5;go_wp2_with fail;refine C3.out.mono ?_;rintro e w8 ⟨A13,k13,rfl,Ou,BL⟩;have hB8:=Z8 (Z8 (Z8 uj hb6) Qh) Ou;have vL:=hide BL;clear BL hb6 Qh Ou uj C1 C2 C3;go_wp2;go_roundw
     case rel=>exact ⟨2,A13,k13,by omega,by omega,rfl,rfl,hB8,vL.out⟩
     case measure=>simp [intOf]
   · -- round 2
     have RW:=RB.out.step hbr;have z0:wr.cell? ⟨K,0,none⟩=some (.slice A1 2 k1):=RW.q0 rfl;have z1:wr.cell? ⟨K,1,none⟩=some (.slice A2 2 k2):=RW.q1 rfl;have z2:wr.cell? ⟨K,2,none⟩=some (.slice A3 2 k3):=RW.q2 rfl;have z3:wr.cell? ⟨K,3,none⟩=some (.slice A4 2 k4):=RW.q3 rfl;have z4:wr.cell? ⟨K,4,none⟩=some (.slice A5 2 k5):=RW.q4 rfl;have z5:wr.cell? ⟨K,5,none⟩=some (.slice A6 2 k6):=RW.q5 rfl;have hd6:=SF.keep (wx:=wc) (K:=K) ⟨hbr,z0,z1,z2,z3,z4,z5⟩ (ZV (Below.refl _ _));have hbd:=ZV hbr;have q1:(IntKind.i64.wrap 3).tmod 3=0:=(by decide);have q2:(IntKind.i64.wrap 4).tmod 3=1:=(by decide);clear RW;go_wp2_with fail
     go_region_held3 (fun w'=>Below wc.heap.size wc w'/\w'.cell? ⟨K,0,none⟩=some (.slice A1 2 k1)/\w'.cell? ⟨K,1,none⟩=some (.slice A2 2 k2)/\w'.cell? ⟨K,2,none⟩=some (.slice A3 2 k3)/\w'.cell? ⟨K,3,none⟩=some (.slice A4 2 k4)/\w'.cell? ⟨K,4,none⟩=some (.slice A5 2 k5)/\w'.cell? ⟨K,5,none⟩=some (.slice A6 2 k6))
      (first|exact hd6|exact SF.keep (by assumption) (by assumption)|exact hd6.keep (by assumption))
      (first
        | (go_at_call 249;((with_reducible refine (nK.out _ hbd).mono ?_);rintro e w' ⟨A7,k7,rfl,hb2,hs7⟩))
        | (go_at_call 248;((with_reducible refine (mW.out _ _ _ _ hs7).mono ?_);rintro e w' ⟨A8,k8,rfl,hb3,uD⟩)))
     rename_i w2 Uf
     obtain ⟨w3,hw3⟩:=eE w';subst hw3;clear Uf z0 z1 z2 z3 z4 z5 hd6 q1 q2;have hB3:=Z8 (Z8 hbd hb2) hb3;have RW:=RB.out.step hB3;have z0:w3.cell? ⟨K,0,none⟩=some (.slice A1 2 k1):=RW.q0 rfl;have z1:w3.cell? ⟨K,1,none⟩=some (.slice A2 2 k2):=RW.q1 rfl;have z2:w3.cell? ⟨K,2,none⟩=some (.slice A3 2 k3):=RW.q2 rfl;have z3:w3.cell? ⟨K,3,none⟩=some (.slice A4 2 k4):=RW.q3 rfl;have z4:w3.cell? ⟨K,4,none⟩=some (.slice A5 2 k5):=RW.q4 rfl;have z5:w3.cell? ⟨K,5,none⟩=some (.slice A6 2 k6):=RW.q5 rfl;have hsA:=hide (((hsr.drew.step (w:=wr.drew) hb2).step hb3));have hsM:=hide uD;clear RW hbr hbd hs7 uD hsr hb2 hb3;go_wp2_with fail;refine (HN2.out _ hB3).mono ?_;rintro e w4 ⟨A9,k9,rfl,hb4,uE⟩;clear z0 z1 z2 z3 z4 z5;go_wp2_with fail;refine (mW.out _ _ _ _ uE).mono ?_;rintro e w5 ⟨A10,k10,rfl,hb5,Sc⟩;have hM5:=hide ((hsM.out.step hb4).step hb5);have hA5:=hide ((hsA.out.step hb4).step hb5);have uj:=Z8 (Z8 hB3 hb4) hb5;clear hsM hsA hb4 hb5 hB3 uE;have C1:=hide (HMU.out _ _ k10 k8 _ _ _ HF2.out.1 HF2.out.2 Sc hM5.out);clear Sc;go_wp2_with fail;refine C1.out.mono ?_;rintro e w6 ⟨A11,k11,rfl,hb6,Ox⟩;have C2:=hide (HX5.out _ k11 _ _ Ox);clear Ox hM5;go_wp2_with fail;refine C2.out.mono ?_;rintro e w7 ⟨A12,k12,rfl,Qh,Nz⟩;have C3:=hide (HAD.out _ _ kc k12 _ _ _ ((hA5.out.step hb6).step Qh) Nz);clear Nz hA5;go_wp2_with fail;refine C3.out.mono ?_;rintro e w8 ⟨A13,k13,rfl,Ou,BL⟩;have hB8:=Z8 (Z8 (Z8 uj hb6) Qh) Ou;have vL:=hide BL;clear BL hb6 Qh Ou uj C1 C2 C3;go_wp2;go_roundw
     case rel=>exact ⟨3,A13,k13,by omega,by omega,rfl,rfl,hB8,vL.out⟩
     case measure=>simp [intOf]
   · have HSR:=hide hsr;clear hsr;go_wp2;go_ret;exact ⟨A,kc,rfl,Z8 Nb.out hbr,HSR.out⟩
theorem w5e:(18446744073709551616:Int) ^ 5=2135987035920910082395021706169552114602704522356652769947041607822219725780640550022962086936576:=by decide +kernel
theorem TN{x y:Int}(h1:-18446744073709551615<=x/\x<=18446744073709551615)(h2:-18446744073709551615<=y/\y<=18446744073709551615):-680564733841876926852962238568698216450<=Wt x y/\Wt x y<=680564733841876926852962238568698216450:=by
 have a:=Vn h1.1 h1.2 h1.1 h1.2;have b:=Vn h2.1 h2.2 h2.1 h2.2;unfold Wt;omega
theorem EC{a b c d:Pt}(ha:PJ a)(hb:PJ b)(hc:PJ c)(hd:PJ d):Fits 5 (Yq a b c d):=by
 have a1:=Xh ha.1 hd.1;have a2:=Xh ha.2 hd.2;have b1:=Xh hb.1 hd.1;have b2:=Xh hb.2 hd.2;have c1:=Xh hc.1 hd.1;have c2:=Xh hc.2 hd.2;have p:=Vn (TN a1 a2).1 (TN a1 a2).2 (WM b1 b2 c1 c2).1 (WM b1 b2 c1 c2).2;have q:=Vn (TN b1 b2).1 (TN b1 b2).2 (WM c1 c2 a1 a2).1 (WM c1 c2 a1 a2).2;have r:=Vn (TN c1 c2).1 (TN c1 c2).2 (WM a1 a2 b1 b2).1 (WM a1 a2 b1 b2).2;unfold Fits Yq;rw [w5e];omega
theorem W9(x:Int):x.sign=-1\/x.sign=0\/x.sign=1:=by
 rcases Int.lt_trichotomy x 0 with h|h|h
 · exact .inl (Int.sign_eq_neg_one_of_neg h)
 · subst h;exact .inr (.inl rfl)
 · exact .inr (.inr (Int.sign_eq_one_of_pos h))
theorem Qn(x y:Int):IntKind.i64.wrap (x.sign*y.sign)=x.sign*y.sign:=by
 rcases W9 x with h|h|h <;> rcases W9 y with h'|h'|h' <;> rw [h,h'] <;> decide
theorem Nq(a b c d:Pt)(ha:PJ a)(hb:PJ b)(hc:PJ c)(hd:PJ d)(w:World)(hw:MW w):
 Calls prog 138 #[.agg #[.int .i64 a.1,.int .i64 a.2],.agg #[.int .i64 b.1,.int .i64 b.2],.agg #[.int .i64 c.1,.int .i64 c.2],.agg #[.int .i64 d.1,.int .i64 d.2]] w fun e w'=>e=.returned (.int .i64 (Yq a b c d).sign)/\Below w.heap.size w w':=by
 obtain ⟨w0,hw0⟩:=eE ((((w.alloc (.cells #[.int .i64 a.1,.int .i64 a.2] 41)).alloc (.cells #[.int .i64 b.1,.int .i64 b.2] 41)).alloc (.cells #[.int .i64 c.1,.int .i64 c.2] 41)).alloc (.cells #[.int .i64 d.1,.int .i64 d.2] 41));have hb0:Below w.heap.size w w0:=by rw [hw0];exact Z5 (Z5 (Z5 (bA) _) _) _
 have HV:=hide (gD a b c d ha hb hc hd w0);have HF:=hide (EC ha hb hc hd);have HW:=hide (hw.step hb0);clear ha hb hc hd hw;go_enter func138,ntmps138;go_wp2_with fail;rw [<- hw0];have HW0:=hide hw0;clear hw0;refine HV.out.mono ?_;rintro e w1 ⟨A1,c1,rfl,hb1,hs1⟩;have hw1:=HW.out.step hb1;have HS:=hide (Vg 5 _ HF.out (by omega) (by omega) A1 c1 w1 hs1 hw1.1 hw1.2);clear hs1 hw1;go_wp2_with fail;refine HS.out.mono ?_;rintro e w2 ⟨rfl,hb2⟩;go_wp2;go_ret;exact ⟨rfl,Z8 (Z8 hb0 hb1) hb2⟩
theorem oH(a b c d:Pt)(ha:PJ a)(hb:PJ b)(hc:PJ c)(hd:PJ d)(w:World)(hw:MW w):
 Calls prog 376 #[.agg #[.int .i64 a.1,.int .i64 a.2],.agg #[.int .i64 b.1,.int .i64 b.2],.agg #[.int .i64 c.1,.int .i64 c.2],.agg #[.int .i64 d.1,.int .i64 d.2]] w fun e w'=>e=.returned (.int .i64 ((Yq a b c d).sign*(Zw a b c).sign))/\Below w.heap.size w w':=by
 obtain ⟨w0,hw0⟩:=eE ((((w.alloc (.cells #[.int .i64 a.1,.int .i64 a.2] 41)).alloc (.cells #[.int .i64 b.1,.int .i64 b.2] 41)).alloc (.cells #[.int .i64 c.1,.int .i64 c.2] 41)).alloc (.cells #[.int .i64 d.1,.int .i64 d.2] 41));have hb0:Below w.heap.size w w0:=by rw [hw0];exact Z5 (Z5 (Z5 (bA) _) _) _
 have PA:Z7 w0 w.heap.size 41 #[.int .i64 a.1,.int .i64 a.2]:=by rw [hw0];exact (((Z7.new _ _ _).alloc _).alloc _).alloc _
 have PB:Z7 w0 (w.heap.size+1) 41 #[.int .i64 b.1,.int .i64 b.2]:=by rw [hw0];exact ((Z7.new2 _ _ _ _).alloc _).alloc _
 have PC:Z7 w0 (w.heap.size+1+1) 41 #[.int .i64 c.1,.int .i64 c.2]:=by
  rw [hw0];have h:=Z7.new ((w.alloc (.cells #[.int .i64 a.1,.int .i64 a.2] 41)).alloc (.cells #[.int .i64 b.1,.int .i64 b.2] 41)) 41 #[.int .i64 c.1,.int .i64 c.2];have h2:=h.alloc (.cells #[.int .i64 d.1,.int .i64 d.2] 41);simpa using h2
 have PD4:Z7 w0 (w.heap.size+1+1+1) 41 #[.int .i64 d.1,.int .i64 d.2]:=by
  rw [hw0];have h:=Z7.new (((w.alloc (.cells #[.int .i64 a.1,.int .i64 a.2] 41)).alloc (.cells #[.int .i64 b.1,.int .i64 b.2] 41)).alloc (.cells #[.int .i64 c.1,.int .i64 c.2] 41)) 41 #[.int .i64 d.1,.int .i64 d.2];simpa using h
 have h00:Ym w0 w.heap.size (w.heap.size+1) (w.heap.size+1+1) (w.heap.size+1+1+1) a.1 a.2 b.1 b.2 c.1 c.2 d.1 d.2 w0:=⟨Below.refl _ _,PA.q0 rfl,PA.q1 rfl,PB.q0 rfl,PB.q1 rfl,PC.q0 rfl,PC.q1 rfl,PD4.q0 rfl,PD4.q1 rfl⟩;have HC:Hid (∀ wk,Below w0.heap.size w0 wk->Calls prog 138 #[.agg #[.int .i64 a.1,.int .i64 a.2],.agg #[.int .i64 b.1,.int .i64 b.2],.agg #[.int .i64 c.1,.int .i64 c.2],.agg #[.int .i64 d.1,.int .i64 d.2]] wk fun e w'=>e=.returned (.int .i64 (Yq a b c d).sign)/\Below wk.heap.size wk w'):=hide fun wk hk=>Nq a b c d ha hb hc hd wk ((hw.step hb0).step hk);have HO:Hid (∀ wk,Below w0.heap.size w0 wk->Calls prog 137 #[.agg #[.int .i64 a.1,.int .i64 a.2],.agg #[.int .i64 b.1,.int .i64 b.2],.agg #[.int .i64 c.1,.int .i64 c.2]] wk fun e w'=>e=.returned (.int .i64 (Zw a b c).sign)/\Below wk.heap.size wk w'):=hide fun wk hk=>Wh a b c ha hb hc wk ((hw.step hb0).step hk);have hwr:=Qn (Yq a b c d) (Zw a b c);clear ha hb hc hd hw PA PB PC PD4;generalize hcs:(Yq a b c d).sign=cs at *;generalize hos:(Zw a b c).sign=os at *;obtain ⟨a,a'⟩:=a;obtain ⟨b,b'⟩:=b;obtain ⟨c,c'⟩:=c;obtain ⟨d,d'⟩:=d;dsimp only at *;clear hcs hos;have hd0:=h00.keep (ZV (Below.refl _ _));have hbd:=ZV (Below.refl w0.heap.size w0);go_enter func376,ntmps376;go_wp2;rw [<- hw0];have HW0:=hide hw0;clear hw0
 go_region_held3 (fun w'=>Below w0.heap.size w0 w'/\w'.cell? ⟨w.heap.size,0,none⟩=some (.int .i64 a)/\w'.cell? ⟨w.heap.size,1,none⟩=some (.int .i64 a')/\w'.cell? ⟨w.heap.size+1,0,none⟩=some (.int .i64 b)/\w'.cell? ⟨w.heap.size+1,1,none⟩=some (.int .i64 b')/\w'.cell? ⟨w.heap.size+1+1,0,none⟩=some (.int .i64 c)/\w'.cell? ⟨w.heap.size+1+1,1,none⟩=some (.int .i64 c')/\w'.cell? ⟨w.heap.size+1+1+1,0,none⟩=some (.int .i64 d)/\w'.cell? ⟨w.heap.size+1+1+1,1,none⟩=some (.int .i64 d'))
  (first|with_reducible exact hd0|with_reducible exact h00|with_reducible exact Ym.keep (by assumption) (by assumption)|with_reducible exact hd0.keep (by assumption))
  (first
    | (go_at_call 138;((with_reducible refine (HC.out _ (by first|with_reducible exact hbd|with_reducible exact Z8 hbd hb2)).mono ?_);rintro e w' ⟨rfl,hb1⟩))
    | (go_at_call 137;((with_reducible refine (HO.out _ (by first|with_reducible exact hbd|with_reducible exact Z8 hbd hb1)).mono ?_);rintro e w' ⟨rfl,hb2⟩)))
 all_goals
  go_wp2;go_ret
  first|exact ⟨rfl,Z8 (Z8 (ZV hb0) hb1) hb2⟩|exact ⟨rfl,Z8 (Z8 (ZV hb0) hb2) hb1⟩
end
end Go.Proofs.YthnenedoblncjaaGreatDoor