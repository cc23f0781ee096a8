/- Diff2 Orient -/
import Derived.Deep.RegionHeld3
import Derived.Test.YthnenedoblncjaaGreatDoorPkP05
set_option maxRecDepth 1000000
set_option maxHeartbeats 8000000
namespace Go.Proofs.YthnenedoblncjaaGreatDoor
section
open Go.RowKit
def GaveN (n:Nat) (v:Int) (w:World) (e:Ending) (w':World):Prop :=
 ∃ A c,e=.returned (.slice A n c)∧Below w.heap.size w w'∧Sl w' w'.heap.size A (uCs (lims n v))
theorem GaveL.n {n:Nat} {v:Int} {w w':World} {e:Ending} (h:GaveL (lims n v) w e w'):GaveN n v w e w':=by
 obtain ⟨A,c,h1,h2,h3⟩:=h
 exact ⟨A,c,by rw [h1,lims_length],h2,h3⟩
theorem callsN {P:Program} {f:FuncId} {args:Array Value} {n:Nat} {v:Int} {w:World} (h:Calls P f args w (GaveL (lims n v) w)):Calls P f args w (GaveN n v w):=h.mono fun _ _ h=>h.n
def J64 (x:Int):Prop:=-9223372036854775808≤x∧x<9223372036854775808
theorem coord_any (a b:Int) (ha:J64 a) (hb:J64 b) (w:World):Calls Tryz.prog 297 #[.int .i64 a,.int .i64 b] w (GaveL (lims 2 (a - b)) w):=by
 have FA:=from_any a ha.1 ha.2 2 (by omega) (by omega) w
 have FB:∀ w1,Calls Tryz.prog 251 #[.int .i64 b,.int .i64 2] w1 (GaveL (lims 2 b) w1):=fun w1=>from_any b hb.1 hb.2 2 (by omega) (by omega) w1
 have HFA:=hide FA;have HFB:=hide FB
 clear FA FB ha hb
 go_enter Tryz.func297,Tryz.ntmps297
 go_wp2_with fail
 refine HFA.out.mono ?_
 rintro e w1 ⟨A1,c1,rfl,hb1,hs1⟩
 rw [lims_length]
 go_wp2_with fail
 refine (HFB.out w1).mono ?_
 rintro e w2 ⟨A2,c2,rfl,hb2,hs2⟩
 rw [lims_length]
 have SB:=lsub_any 2 a b (by omega) (by omega) A1 A2 c1 c2 w2 ((hs1.below hb2).more hb2.size) hs2
 have HSB:=hide SB
 clear SB hs1 hs2
 go_wp2_with fail
 refine HSB.out.mono ?_
 rintro e w3 ⟨A3,c3,rfl,hb3,hs3⟩
 go_wp2
 go_ret
 exact ⟨A3,c3,rfl,bl_step (bl_step hb1 hb2) hb3,hs3⟩
def vecVal (A:Option Addr) (c:Nat) (A':Option Addr) (c':Nat):Value:=.agg #[.slice A 2 c,.slice A' 2 c']
def GaveV (x y:Int) (w:World) (e:Ending) (w':World):Prop :=
 ∃ A c A' c',e=.returned (vecVal A c A' c')∧Below w.heap.size w w'∧Sl w' w'.heap.size A (uCs (lims 2 x))∧Sl w' w'.heap.size A' (uCs (lims 2 y))
def Held6 (w0 w':World) (b1 b2 g:Nat) (v1 v2 v3 v4:Value):Prop :=
 Below w0.heap.size w0 w'∧w'.cell? ⟨b1,0,none⟩=some v1∧w'.cell? ⟨b1,1,none⟩=some v2∧w'.cell? ⟨b2,0,none⟩=some v3∧w'.cell? ⟨b2,1,none⟩=some v4∧w'.cell? ⟨g,0,none⟩=some (.slice none 0 0)∧w'.cell? ⟨g,1,none⟩=some (.slice none 0 0)∧w'.frozen? ⟨g,0,none⟩=false∧w'.frozen? ⟨g,1,none⟩=false
theorem Held6.keep {w0 wk w':World} {b1 b2 g:Nat} {v1 v2 v3 v4:Value} (h:Held6 w0 wk b1 b2 g v1 v2 v3 v4) (hb:Below wk.heap.size wk w'):Held6 w0 w' b1 b2 g v1 v2 v3 v4:=by
 have on:∀ {b o:Nat} {v:Value},wk.cell? ⟨b,o,none⟩=some v→w'.cell? ⟨b,o,none⟩=some v:=fun h=>(hb.cell (p:=⟨_,_,none⟩) (cell_lt h)).trans h
 obtain ⟨h0,h1,h2,h3,h4,h5,h6,h7,h8⟩:=h
 exact ⟨bl_step h0 hb,on h1,on h2,on h3,on h4,on h5,on h6,(hb.frozen (p:=⟨g,0,none⟩) (cell_lt h5)).trans h7,(hb.frozen (p:=⟨g,1,none⟩) (cell_lt h6)).trans h8⟩
theorem u_ne {w:World} {B g:Nat} {A:Option Addr} {l:List Int} {x:Addr} {t:TypeId} {B1 B2:Option Addr} {n1 n2 k1 k2:Nat} (h:Sl w B A (uCs l)) (hl:0<l.length) (hA:A=some x)
 (hb:Blk w g t #[.slice B1 n1 k1,.slice B2 n2 k2]):x.block≠g:=by
 rintro rfl
 obtain ⟨b,off,hA',_,hc⟩:=h.u hl
 rw [hA'] at hA
 cases hA
 obtain ⟨y,hy⟩:∃ y,l[0]?=some y:=⟨_,List.getElem?_eq_getElem hl⟩
 have c0:=hc 0 y hy
 have hcell:=cell_of_row w b (off+0) _ t (0,0) hb
 rw [c0] at hcell
 generalize off+0=i at hcell
 match i,hcell with
 | 0,h=>simp at h
 | 1,h=>simp at h
 | i+2,h=>simp at h
theorem gaveV_fin {w w0 w1 w2:World} {g:Nat} {t:TypeId} {A1 A2:Option Addr} {c1 c2:Nat} {x y:Int} (hb0:Below w.heap.size w w0) (hg:w.heap.size≤g) (hb1:Below w0.heap.size w0.drew w1) (hb2:Below w1.heap.size w1 w2)
 (RV:Blk w0 g t #[.slice none 0 0,.slice none 0 0]) (hs1:Sl w1 w1.heap.size A1 (uCs (lims 2 x))) (hs2:Sl w2 w2.heap.size A2 (uCs (lims 2 y))) :
 (w2.setCell ⟨g,0,none⟩ (.slice A1 2 c1)).cell? ⟨g,0,none⟩=some (.slice A1 2 c1)∧((w2.setCell ⟨g,0,none⟩ (.slice A1 2 c1)).setCell ⟨g,1,none⟩ (.slice A2 2 c2)).cell? ⟨g,1,none⟩=some (.slice A2 2 c2) ∧
 GaveV x y w (.returned (vecVal A1 c1 A2 c2)) ((w2.setCell ⟨g,0,none⟩ (.slice A1 2 c1)).setCell ⟨g,1,none⟩ (.slice A2 2 c2)):=by
 have R1:Blk w1 g t #[.slice none 0 0,.slice none 0 0]:=(RV.drew).below hb1 RV.lt
 have R2:=R1.step hb2
 have hl1:0<(lims 2 x).length:=by rw [lims_length];omega
 have hl2:0<(lims 2 y).length:=by rw [lims_length];omega
 have hs1':=(hs1.below hb2).more hb2.size
 have f1:=(hs1'.far (p:=⟨g,0,none⟩) (fun _ z hz=>u_ne hs1' hl1 hz R2) (.slice A1 2 c1)).far (p:=⟨g,1,none⟩) (fun _ z hz=>u_ne hs1' hl1 hz R2) (.slice A2 2 c2)
 have f2:=(hs2.far (p:=⟨g,0,none⟩) (fun _ z hz=>u_ne hs2 hl2 hz R2) (.slice A1 2 c1)).far (p:=⟨g,1,none⟩) (fun _ z hz=>u_ne hs2 hl2 hz R2) (.slice A2 2 c2)
 refine ⟨(R2.set 0 _).cell (i:=0) rfl,((R2.set 0 (.slice A1 2 c1)).set 1 _).cell (i:=1) rfl,A1,c1,A2,c2,rfl,?_,?_,?_⟩
 · exact ((bl_step (bl_step hb0 (below_of_drew hb1)) hb2).setCell hg _).setCell hg _
 · simpa [World.size_setCell] using f1
 · simpa [World.size_setCell] using f2
theorem between_any (ax ay bx by_:Int) (h1:J64 ax) (h2:J64 ay) (h3:J64 bx) (h4:J64 by_) (w:World) :
 Calls Tryz.prog 250 #[.agg #[.int .i64 ax,.int .i64 ay],.agg #[.int .i64 bx,.int .i64 by_]] w (GaveV (bx - ax) (by_ - ay) w):=by
 obtain ⟨w0,hw0⟩:∃ w0,w0=((w.alloc (.cells #[.int .i64 ax,.int .i64 ay] 41)).alloc (.cells #[.int .i64 bx,.int .i64 by_] 41)).alloc (.cells #[.slice none 0 0,.slice none 0 0] 284):=⟨_,rfl⟩
 have hb0:Below w.heap.size w w0:=by rw [hw0];exact bl_alloc (bl_alloc (bA) _) _
 have PA:Blk w0 w.heap.size 41 #[.int .i64 ax,.int .i64 ay]:=by rw [hw0];exact ((Blk.new _ _ _).alloc _).alloc _
 have PB:Blk w0 (w.heap.size+1) 41 #[.int .i64 bx,.int .i64 by_]:=by rw [hw0];exact (Blk.new2 _ _ _ _).alloc _
 have RV:Blk w0 (w.heap.size+1+1) 284 #[.slice none 0 0,.slice none 0 0]:=by
  rw [hw0]
  have h:=Blk.new ((w.alloc (.cells #[.int .i64 ax,.int .i64 ay] 41)).alloc (.cells #[.int .i64 bx,.int .i64 by_] 41)) 284 #[.slice none 0 0,.slice none 0 0]
  simpa using h
 have a0:=PA.cell (i:=0) rfl
 have a1:=PA.cell (i:=1) rfl
 have b0:=PB.cell (i:=0) rfl
 have b1:=PB.cell (i:=1) rfl
 have HC1:=hide (fun wk=>callsN (coord_any bx ax h3 h1 wk));have HC2:=hide (fun wk=>callsN (coord_any by_ ay h4 h2 wk))
 clear h1 h2 h3 h4
 go_enter Tryz.func250,Tryz.ntmps250
 go_wp2
 rw [← hw0]
 have HW0:=hide hw0
 clear hw0
 have r0:=RV.cell (i:=0) rfl
 have r1:=RV.cell (i:=1) rfl
 have f0:=RV.frozen 0
 have f1:=RV.frozen 1
 have h00:Held6 w0 w0 w.heap.size (w.heap.size+1) (w.heap.size+1+1) (.int .i64 ax) (.int .i64 ay) (.int .i64 bx) (.int .i64 by_):=⟨Below.refl _ _,a0,a1,b0,b1,r0,r1,f0,f1⟩
 have hd0:=h00.keep (bl_drew (Below.refl _ _))
 go_region_law (first
  | (go_simp;go_at_call 297;(with_reducible refine (HC1.out _).mono ?_);rintro e w1 ⟨A1,c1,rfl,hb1,hs1⟩;obtain ⟨-,x0,x1,x2,x3,x4,x5,x6,x7⟩:=hd0.keep hb1)
  | (go_simp;go_at_call 297;(with_reducible refine (HC2.out _).mono ?_);rintro e w2 ⟨A2,c2,rfl,hb2,hs2⟩;obtain ⟨-,x0,x1,x2,x3,x4,x5,x6,x7⟩:=(hd0.keep hb1).keep hb2))
 all_goals
  obtain ⟨e0,e1,hfin⟩:=gaveV_fin (c1:=c1) (c2:=c2) hb0 (show w.heap.size≤w.heap.size+1+1 by omega) hb1 hb2 RV hs1 hs2
  clear x0 x1 x2 x3 x4 x5 x6 x7
  go_wp2
  exact bodyPost_ret (v:=.agg #[.slice A1 2 c1,.slice A2 2 c2]) (by simp [results,Tryz.results250,go_sem,e0,e1]) rfl hfin
end
section
open Go.RowKit
theorem keepC4 {w0 wk w':World} {b1 o1 b2 o2 b3 o3 b4 o4:Nat} {v1 v2 v3 v4:Value} (hb:Below wk.heap.size wk w')
 (h:Below w0.heap.size w0 wk∧wk.cell? ⟨b1,o1,none⟩=some v1∧wk.cell? ⟨b2,o2,none⟩=some v2∧wk.cell? ⟨b3,o3,none⟩=some v3∧wk.cell? ⟨b4,o4,none⟩=some v4) :
 Below w0.heap.size w0 w'∧w'.cell? ⟨b1,o1,none⟩=some v1∧w'.cell? ⟨b2,o2,none⟩=some v2∧w'.cell? ⟨b3,o3,none⟩=some v3∧w'.cell? ⟨b4,o4,none⟩=some v4 :=
 have on:∀ {b o:Nat} {v:Value},wk.cell? ⟨b,o,none⟩=some v→w'.cell? ⟨b,o,none⟩=some v:=fun h=>(hb.cell (p:=⟨_,_,none⟩) (cell_lt h)).trans h
 ⟨bl_step h.1 hb,on h.2.1,on h.2.2.1,on h.2.2.2.1,on h.2.2.2.2⟩
theorem turned_any (A A':Option Addr) (c c':Nat) (w:World):Calls Tryz.prog 295 #[vecVal A c A' c'] w fun e w'=>e=.returned (vecVal A' c' A c)∧Below w.heap.size w w':=by
 unfold vecVal
 obtain ⟨w0,hw0⟩:∃ w0,w0=(w.alloc (.cells #[.slice A 2 c,.slice A' 2 c'] 284)).alloc (.cells #[.slice A' 2 c',.slice A 2 c] 284):=⟨_,rfl⟩
 have hb0:Below w.heap.size w w0:=by rw [hw0];exact bl_alloc (bA) _
 have R0:Blk w0 (w.heap.size+1) 284 #[.slice A' 2 c',.slice A 2 c]:=by rw [hw0];exact Blk.new2 _ _ _ _
 have e0:=R0.cell (i:=0) rfl
 have e1:=R0.cell (i:=1) rfl
 go_enter Tryz.func295,Tryz.ntmps295
 go_wp2
 rw [← hw0]
 exact bodyPost_ret (v:=.agg #[.slice A' 2 c',.slice A 2 c]) (by simp [results,Tryz.results295,go_sem,e0,e1]) rfl ⟨rfl,hb0⟩
theorem same_any (A A':Option Addr) (c c':Nat) (w:World):Calls Tryz.prog 335 #[vecVal A c A' c'] w fun e w'=>e=.returned (vecVal A c A' c')∧Below w.heap.size w w':=by
 unfold vecVal
 obtain ⟨w0,hw0⟩:∃ w0,w0=(w.alloc (.cells #[.slice A 2 c,.slice A' 2 c'] 284)).alloc (.cells #[.slice A 2 c,.slice A' 2 c'] 284):=⟨_,rfl⟩
 have hb0:Below w.heap.size w w0:=by rw [hw0];exact bl_alloc (bA) _
 have R0:Blk w0 (w.heap.size+1) 284 #[.slice A 2 c,.slice A' 2 c']:=by rw [hw0];exact Blk.new2 _ _ _ _
 have e0:=R0.cell (i:=0) rfl
 have e1:=R0.cell (i:=1) rfl
 go_enter Tryz.func335,Tryz.ntmps335
 go_wp2
 rw [← hw0]
 exact bodyPost_ret (v:=.agg #[.slice A 2 c,.slice A' 2 c']) (by simp [results,Tryz.results335,go_sem,e0,e1]) rfl ⟨rfl,hb0⟩
theorem dis_true (A1 A2 A3 A4:Option Addr) (c1 c2 c3 c4:Nat) (g:Nat) (w:World) (hb:Blk w g 284 #[.slice A1 2 c1,.slice A2 2 c2,.slice A3 2 c3,.slice A4 2 c4]) :
 Calls Tryz.prog 334 #[.slice (some ⟨g,0,none⟩) 2 2] w fun e w'=>e=.returned (.bool true)∧Below w.heap.size w w':=by
 have HB:=hide hb
 go_enter Tryz.func334,Tryz.ntmps334
 go_wp2
 go_loopw [7] (fun i wr=>∃ k:Nat,k≤2∧i=.int .i64 k∧Below w.heap.size w wr)
  (fun i _=>2 - (intOf i).toNat)
 case atStart=>exact ⟨0,by omega,rfl,Below.refl _ _⟩
 case round =>
  obtain ⟨k,hk,rfl,hbr⟩:=hrel
  have Br:=HB.out.step hbr
  by_cases h0:k=0
  · subst h0
    have c0:=Br.cell (i:=0) rfl
    have c1:=Br.cell (i:=1) rfl
    go_wp2
    go_roundw
    case rel=>exact ⟨1,by omega,rfl,bl_alloc hbr _⟩
    case measure=>simp [intOf]
  · by_cases h1:k=1
    · subst h1
      have c0:=Br.cell (i:=2) rfl
      have c1:=Br.cell (i:=3) rfl
      go_wp2
      go_roundw
      case rel=>exact ⟨2,by omega,rfl,bl_alloc hbr _⟩
      case measure=>simp [intOf]
    · obtain rfl:k=2:=by omega
      go_wp2
      go_ret
      exact ⟨rfl,hbr⟩
theorem comb_cross (x y:Int) (A A':Option Addr) (c c':Nat) (w:World) (h1:Sl w w.heap.size A (uCs (lims 4 x))) (h2:Sl w w.heap.size A' (uCs (lims 4 y))) :
 Calls Tryz.prog 296 #[.slice A 4 c,.slice A' 4 c'] w (GaveN 4 (x - y) w):=by
 have HS:=hide (callsN (lsub_any 4 x y (by omega) (by omega) A A' c c' w h1 h2))
 clear h1 h2
 go_enter Tryz.func296,Tryz.ntmps296
 go_wp2_with fail
 refine HS.out.mono ?_
 rintro e w1 ⟨A1,c1,rfl,hb1,h1⟩
 go_wp2
 go_ret
 exact ⟨A1,c1,rfl,hb1,h1⟩
theorem prod_cross (ux uy vx vy:Int) (fx:Fits 2 ux) (fy:Fits 2 uy) (gx:Fits 2 vx) (gy:Fits 2 vy) (A1 A2 A3 A4:Option Addr) (c1 c2 c3 c4:Nat) (w:World)
 (h1:Sl w w.heap.size A1 (uCs (lims 2 ux))) (h2:Sl w w.heap.size A2 (uCs (lims 2 uy))) (h3:Sl w w.heap.size A3 (uCs (lims 2 vx))) (h4:Sl w w.heap.size A4 (uCs (lims 2 vy))) :
 Calls Tryz.prog 294 #[.agg #[.slice A1 2 c1,.slice A2 2 c2],.agg #[.slice A3 2 c3,.slice A4 2 c4],.func (.func 295) #[] #[],.func (.func 296) #[] #[]] w (GaveN 4 (ux*vy - uy*vx) w):=by
 obtain ⟨w0,hw0⟩:∃ w0,w0=((w.alloc (.cells #[.slice A1 2 c1,.slice A2 2 c2] 284)).alloc (.cells #[.slice A3 2 c3,.slice A4 2 c4] 284)).alloc (.cells #[.slice A1 2 c1,.slice A2 2 c2,.slice A3 2 c3,.slice A4 2 c4] 284):=⟨_,rfl⟩
 have hb0:Below w.heap.size w w0:=by rw [hw0];exact bl_alloc (bl_alloc (bA) _) _
 have U0:Blk w0 w.heap.size 284 #[.slice A1 2 c1,.slice A2 2 c2]:=by rw [hw0];exact ((Blk.new _ _ _).alloc _).alloc _
 have V0:Blk w0 (w.heap.size+1) 284 #[.slice A3 2 c3,.slice A4 2 c4]:=by rw [hw0];exact (Blk.new2 _ _ _ _).alloc _
 have S0:Blk w0 (w.heap.size+1+1) 284 #[.slice A1 2 c1,.slice A2 2 c2,.slice A3 2 c3,.slice A4 2 c4]:=by
  rw [hw0]
  have h:=Blk.new ((w.alloc (.cells #[.slice A1 2 c1,.slice A2 2 c2] 284)).alloc (.cells #[.slice A3 2 c3,.slice A4 2 c4] 284)) 284 #[.slice A1 2 c1,.slice A2 2 c2,.slice A3 2 c3,.slice A4 2 c4]
  simpa using h
 have M1:∀ wk,Below w.heap.size w wk→Calls Tryz.prog 254 #[.slice A1 2 c1,.slice A4 2 c4] wk (GaveN 4 (ux*vy) wk):=fun wk hk=>callsN (lmul_any 2 2 ux vy (by omega) (by omega) (by omega) fx gy A1 A4 c1 c4 wk ((h1.below hk).more hk.size) ((h4.below hk).more hk.size))
 have M2:∀ wk,Below w.heap.size w wk→Calls Tryz.prog 254 #[.slice A2 2 c2,.slice A3 2 c3] wk (GaveN 4 (uy*vx) wk):=fun wk hk=>callsN (lmul_any 2 2 uy vx (by omega) (by omega) (by omega) fy gx A2 A3 c2 c3 wk ((h2.below hk).more hk.size) ((h3.below hk).more hk.size))
 have HIS:=hide (dis_true A1 A2 A3 A4 c1 c2 c3 c4 _ w0 S0)
 have HM1:=hide M1;have HM2:=hide M2
 clear M1 M2 h1 h2 h3 h4 fx fy gx gy
 go_enter Tryz.func294,Tryz.ntmps294
 go_wp2_with fail
 rw [← hw0]
 have HW0:=hide hw0
 clear hw0
 refine HIS.out.mono ?_
 rintro e w1 ⟨rfl,hb1⟩
 have V1:=V0.step hb1
 have v0:=V1.cell (i:=0) rfl
 have v1:=V1.cell (i:=1) rfl
 have HAR:Hid (Calls Tryz.prog 295 #[.agg #[.slice A3 2 c3,.slice A4 2 c4]] w1 fun e w'=>e=.returned (.agg #[.slice A4 2 c4,.slice A3 2 c3])∧Below w1.heap.size w1 w'):=hide (turned_any A3 A4 c3 c4 w1)
 go_wp2_with fail
 refine HAR.out.mono ?_
 rintro e w2 ⟨rfl,hb2⟩
 obtain ⟨w3,hw3⟩:∃ w3,w3=w2.alloc (.cells #[.slice A4 2 c4,.slice A3 2 c3] 284):=⟨_,rfl⟩
 have hb3:Below w2.heap.size w2 w3:=by rw [hw3];exact bA
 have W3:Blk w3 w2.heap.size 284 #[.slice A4 2 c4,.slice A3 2 c3]:=by rw [hw3];exact Blk.new _ _ _
 have U3:=((U0.step hb1).step hb2).step hb3
 have HB3:=bl_step (bl_step (bl_step hb0 hb1) hb2) hb3
 clear v0 v1
 go_wp2
 rw [← hw3]
 have HW3:=hide hw3
 clear hw3
 have u0:=U3.cell (i:=0) rfl
 have u1:=U3.cell (i:=1) rfl
 have x0:=W3.cell (i:=0) rfl
 have x1:=W3.cell (i:=1) rfl
 have hS0:(fun w':World=>Below w3.heap.size w3 w'∧w'.cell? ⟨w.heap.size,0,none⟩=some (.slice A1 2 c1)∧w'.cell? ⟨w.heap.size,1,none⟩=some (.slice A2 2 c2)∧w'.cell? ⟨w2.heap.size,0,none⟩=some (.slice A4 2 c4)∧w'.cell? ⟨w2.heap.size,1,none⟩=some (.slice A3 2 c3)) w3:=⟨Below.refl _ _,u0,u1,x0,x1⟩
 have hSd:(fun w':World=>Below w3.heap.size w3 w'∧w'.cell? ⟨w.heap.size,0,none⟩=some (.slice A1 2 c1)∧w'.cell? ⟨w.heap.size,1,none⟩=some (.slice A2 2 c2)∧w'.cell? ⟨w2.heap.size,0,none⟩=some (.slice A4 2 c4)∧w'.cell? ⟨w2.heap.size,1,none⟩=some (.slice A3 2 c3)) w3.drew:=keepC4 (bl_drew (Below.refl _ _)) hS0
 have N1:Hid (∀ w',(Below w3.heap.size w3 w'∧w'.cell? ⟨w.heap.size,0,none⟩=some (.slice A1 2 c1)∧w'.cell? ⟨w.heap.size,1,none⟩=some (.slice A2 2 c2)∧w'.cell? ⟨w2.heap.size,0,none⟩=some (.slice A4 2 c4)∧w'.cell? ⟨w2.heap.size,1,none⟩=some (.slice A3 2 c3))→Calls Tryz.prog 254 #[.slice A1 2 c1,.slice A4 2 c4] w' (GaveN 4 (ux*vy) w')):=hide fun wk h=>HM1.out wk (bl_step HB3 h.1)
 have N2:Hid (∀ w',(Below w3.heap.size w3 w'∧w'.cell? ⟨w.heap.size,0,none⟩=some (.slice A1 2 c1)∧w'.cell? ⟨w.heap.size,1,none⟩=some (.slice A2 2 c2)∧w'.cell? ⟨w2.heap.size,0,none⟩=some (.slice A4 2 c4)∧w'.cell? ⟨w2.heap.size,1,none⟩=some (.slice A3 2 c3))→Calls Tryz.prog 254 #[.slice A2 2 c2,.slice A3 2 c3] w' (GaveN 4 (uy*vx) w')):=hide fun wk h=>HM2.out wk (bl_step HB3 h.1)
 go_region_held3 (fun w'=>Below w3.heap.size w3 w'∧w'.cell? ⟨w.heap.size,0,none⟩=some (.slice A1 2 c1)∧w'.cell? ⟨w.heap.size,1,none⟩=some (.slice A2 2 c2)∧w'.cell? ⟨w2.heap.size,0,none⟩=some (.slice A4 2 c4)∧w'.cell? ⟨w2.heap.size,1,none⟩=some (.slice A3 2 c3))
  (first | exact hSd | exact hS0 | exact keepC4 (by assumption) (by assumption) | exact keepC4 (by assumption) hSd)
  (first
    | (go_at_call 254;((with_reducible refine (N1.out _ (by assumption)).mono ?_);rintro e w' ⟨A5,c5,rfl,hb4,hs4⟩))
    | (go_at_call 254;((with_reducible refine (N1.out _ hSd).mono ?_);rintro e w' ⟨A5,c5,rfl,hb4,hs4⟩))
    | (go_at_call 254;((with_reducible refine (N2.out _ (by assumption)).mono ?_);rintro e w' ⟨A6,c6,rfl,hb5,hs5⟩))
    | (go_at_call 296;((with_reducible refine (comb_cross _ _ _ _ _ _ _ ((hs4.below hb5).more hb5.size) hs5).mono ?_);rintro e w' ⟨A7,c7,rfl,hb6,hs6⟩)))
 all_goals
  go_wp2
  go_ret
  exact ⟨A7,c7,rfl,bl_step (bl_step (bl_step (bl_drew HB3) hb4) hb5) hb6,hs6⟩
theorem cross_any (ux uy vx vy:Int) (fx:Fits 2 ux) (fy:Fits 2 uy) (gx:Fits 2 vx) (gy:Fits 2 vy) (A1 A2 A3 A4:Option Addr) (c1 c2 c3 c4:Nat) (w:World)
 (h1:Sl w w.heap.size A1 (uCs (lims 2 ux))) (h2:Sl w w.heap.size A2 (uCs (lims 2 uy))) (h3:Sl w w.heap.size A3 (uCs (lims 2 vx))) (h4:Sl w w.heap.size A4 (uCs (lims 2 vy))) :
 Calls Tryz.prog 249 #[.agg #[.slice A1 2 c1,.slice A2 2 c2],.agg #[.slice A3 2 c3,.slice A4 2 c4]] w (GaveN 4 (ux*vy - uy*vx) w):=by
 obtain ⟨w0,hw0⟩:∃ w0,w0=(w.alloc (.cells #[.slice A1 2 c1,.slice A2 2 c2] 284)).alloc (.cells #[.slice A3 2 c3,.slice A4 2 c4] 284):=⟨_,rfl⟩
 have hb0:Below w.heap.size w w0:=by rw [hw0];exact bl_alloc (bA) _
 have hz:=hb0.size
 have HP:=hide (prod_cross ux uy vx vy fx fy gx gy A1 A2 A3 A4 c1 c2 c3 c4 w0 ((h1.below hb0).more hz) ((h2.below hb0).more hz) ((h3.below hb0).more hz) ((h4.below hb0).more hz))
 clear h1 h2 h3 h4 fx fy gx gy
 go_enter Tryz.func249,Tryz.ntmps249
 go_wp2_with fail
 rw [← hw0]
 have HW0:=hide hw0
 clear hw0
 refine HP.out.mono ?_
 rintro e w1 ⟨A5,c5,rfl,hb1,hs⟩
 go_wp2
 go_ret
 exact ⟨A5,c5,rfl,bl_step hb0 hb1,hs⟩
theorem comb_dot (x y:Int) (A A':Option Addr) (c c':Nat) (w:World) (h1:Sl w w.heap.size A (uCs (lims 4 x))) (h2:Sl w w.heap.size A' (uCs (lims 4 y))) :
 Calls Tryz.prog 336 #[.slice A 4 c,.slice A' 4 c'] w (GaveN 4 (x+y) w):=by
 have HS:=hide (callsN (ladd_any 4 x y (by omega) (by omega) A A' c c' w h1 h2))
 clear h1 h2
 go_enter Tryz.func336,Tryz.ntmps336
 go_wp2_with fail
 refine HS.out.mono ?_
 rintro e w1 ⟨A1,c1,rfl,hb1,h1⟩
 go_wp2
 go_ret
 exact ⟨A1,c1,rfl,hb1,h1⟩
theorem prod_dot (ux uy vx vy:Int) (fx:Fits 2 ux) (fy:Fits 2 uy) (gx:Fits 2 vx) (gy:Fits 2 vy) (A1 A2 A3 A4:Option Addr) (c1 c2 c3 c4:Nat) (w:World)
 (h1:Sl w w.heap.size A1 (uCs (lims 2 ux))) (h2:Sl w w.heap.size A2 (uCs (lims 2 uy))) (h3:Sl w w.heap.size A3 (uCs (lims 2 vx))) (h4:Sl w w.heap.size A4 (uCs (lims 2 vy))) :
 Calls Tryz.prog 294 #[.agg #[.slice A1 2 c1,.slice A2 2 c2],.agg #[.slice A3 2 c3,.slice A4 2 c4],.func (.func 335) #[] #[],.func (.func 336) #[] #[]] w (GaveN 4 (ux*vx+uy*vy) w):=by
 obtain ⟨w0,hw0⟩:∃ w0,w0=((w.alloc (.cells #[.slice A1 2 c1,.slice A2 2 c2] 284)).alloc (.cells #[.slice A3 2 c3,.slice A4 2 c4] 284)).alloc (.cells #[.slice A1 2 c1,.slice A2 2 c2,.slice A3 2 c3,.slice A4 2 c4] 284):=⟨_,rfl⟩
 have hb0:Below w.heap.size w w0:=by rw [hw0];exact bl_alloc (bl_alloc (bA) _) _
 have U0:Blk w0 w.heap.size 284 #[.slice A1 2 c1,.slice A2 2 c2]:=by rw [hw0];exact ((Blk.new _ _ _).alloc _).alloc _
 have V0:Blk w0 (w.heap.size+1) 284 #[.slice A3 2 c3,.slice A4 2 c4]:=by rw [hw0];exact (Blk.new2 _ _ _ _).alloc _
 have S0:Blk w0 (w.heap.size+1+1) 284 #[.slice A1 2 c1,.slice A2 2 c2,.slice A3 2 c3,.slice A4 2 c4]:=by
  rw [hw0]
  have h:=Blk.new ((w.alloc (.cells #[.slice A1 2 c1,.slice A2 2 c2] 284)).alloc (.cells #[.slice A3 2 c3,.slice A4 2 c4] 284)) 284 #[.slice A1 2 c1,.slice A2 2 c2,.slice A3 2 c3,.slice A4 2 c4]
  simpa using h
 have M1:∀ wk,Below w.heap.size w wk→Calls Tryz.prog 254 #[.slice A1 2 c1,.slice A3 2 c3] wk (GaveN 4 (ux*vx) wk):=fun wk hk=>callsN (lmul_any 2 2 ux vx (by omega) (by omega) (by omega) fx gx A1 A3 c1 c3 wk ((h1.below hk).more hk.size) ((h3.below hk).more hk.size))
 have M2:∀ wk,Below w.heap.size w wk→Calls Tryz.prog 254 #[.slice A2 2 c2,.slice A4 2 c4] wk (GaveN 4 (uy*vy) wk):=fun wk hk=>callsN (lmul_any 2 2 uy vy (by omega) (by omega) (by omega) fy gy A2 A4 c2 c4 wk ((h2.below hk).more hk.size) ((h4.below hk).more hk.size))
 have HIS:=hide (dis_true A1 A2 A3 A4 c1 c2 c3 c4 _ w0 S0)
 have HM1:=hide M1;have HM2:=hide M2
 clear M1 M2 h1 h2 h3 h4 fx fy gx gy
 go_enter Tryz.func294,Tryz.ntmps294
 go_wp2_with fail
 rw [← hw0]
 have HW0:=hide hw0
 clear hw0
 refine HIS.out.mono ?_
 rintro e w1 ⟨rfl,hb1⟩
 have V1:=V0.step hb1
 have v0:=V1.cell (i:=0) rfl
 have v1:=V1.cell (i:=1) rfl
 have HAR:Hid (Calls Tryz.prog 335 #[.agg #[.slice A3 2 c3,.slice A4 2 c4]] w1 fun e w'=>e=.returned (.agg #[.slice A3 2 c3,.slice A4 2 c4])∧Below w1.heap.size w1 w'):=hide (same_any A3 A4 c3 c4 w1)
 go_wp2_with fail
 refine HAR.out.mono ?_
 rintro e w2 ⟨rfl,hb2⟩
 obtain ⟨w3,hw3⟩:∃ w3,w3=w2.alloc (.cells #[.slice A3 2 c3,.slice A4 2 c4] 284):=⟨_,rfl⟩
 have hb3:Below w2.heap.size w2 w3:=by rw [hw3];exact bA
 have W3:Blk w3 w2.heap.size 284 #[.slice A3 2 c3,.slice A4 2 c4]:=by rw [hw3];exact Blk.new _ _ _
 have U3:=((U0.step hb1).step hb2).step hb3
 have HB3:=bl_step (bl_step (bl_step hb0 hb1) hb2) hb3
 clear v0 v1
 go_wp2
 rw [← hw3]
 have HW3:=hide hw3
 clear hw3
 have u0:=U3.cell (i:=0) rfl
 have u1:=U3.cell (i:=1) rfl
 have x0:=W3.cell (i:=0) rfl
 have x1:=W3.cell (i:=1) rfl
 have hS0:(fun w':World=>Below w3.heap.size w3 w'∧w'.cell? ⟨w.heap.size,0,none⟩=some (.slice A1 2 c1)∧w'.cell? ⟨w.heap.size,1,none⟩=some (.slice A2 2 c2)∧w'.cell? ⟨w2.heap.size,0,none⟩=some (.slice A3 2 c3)∧w'.cell? ⟨w2.heap.size,1,none⟩=some (.slice A4 2 c4)) w3:=⟨Below.refl _ _,u0,u1,x0,x1⟩
 have hSd:(fun w':World=>Below w3.heap.size w3 w'∧w'.cell? ⟨w.heap.size,0,none⟩=some (.slice A1 2 c1)∧w'.cell? ⟨w.heap.size,1,none⟩=some (.slice A2 2 c2)∧w'.cell? ⟨w2.heap.size,0,none⟩=some (.slice A3 2 c3)∧w'.cell? ⟨w2.heap.size,1,none⟩=some (.slice A4 2 c4)) w3.drew:=keepC4 (bl_drew (Below.refl _ _)) hS0
 have N1:Hid (∀ w',(Below w3.heap.size w3 w'∧w'.cell? ⟨w.heap.size,0,none⟩=some (.slice A1 2 c1)∧w'.cell? ⟨w.heap.size,1,none⟩=some (.slice A2 2 c2)∧w'.cell? ⟨w2.heap.size,0,none⟩=some (.slice A3 2 c3)∧w'.cell? ⟨w2.heap.size,1,none⟩=some (.slice A4 2 c4))→Calls Tryz.prog 254 #[.slice A1 2 c1,.slice A3 2 c3] w' (GaveN 4 (ux*vx) w')):=hide fun wk h=>HM1.out wk (bl_step HB3 h.1)
 have N2:Hid (∀ w',(Below w3.heap.size w3 w'∧w'.cell? ⟨w.heap.size,0,none⟩=some (.slice A1 2 c1)∧w'.cell? ⟨w.heap.size,1,none⟩=some (.slice A2 2 c2)∧w'.cell? ⟨w2.heap.size,0,none⟩=some (.slice A3 2 c3)∧w'.cell? ⟨w2.heap.size,1,none⟩=some (.slice A4 2 c4))→Calls Tryz.prog 254 #[.slice A2 2 c2,.slice A4 2 c4] w' (GaveN 4 (uy*vy) w')):=hide fun wk h=>HM2.out wk (bl_step HB3 h.1)
 go_region_held3 (fun w'=>Below w3.heap.size w3 w'∧w'.cell? ⟨w.heap.size,0,none⟩=some (.slice A1 2 c1)∧w'.cell? ⟨w.heap.size,1,none⟩=some (.slice A2 2 c2)∧w'.cell? ⟨w2.heap.size,0,none⟩=some (.slice A3 2 c3)∧w'.cell? ⟨w2.heap.size,1,none⟩=some (.slice A4 2 c4))
  (first | exact hSd | exact hS0 | exact keepC4 (by assumption) (by assumption) | exact keepC4 (by assumption) hSd)
  (first
    | (go_at_call 254;((with_reducible refine (N1.out _ (by assumption)).mono ?_);rintro e w' ⟨A5,c5,rfl,hb4,hs4⟩))
    | (go_at_call 254;((with_reducible refine (N1.out _ hSd).mono ?_);rintro e w' ⟨A5,c5,rfl,hb4,hs4⟩))
    | (go_at_call 254;((with_reducible refine (N2.out _ (by assumption)).mono ?_);rintro e w' ⟨A6,c6,rfl,hb5,hs5⟩))
    | (go_at_call 336;((with_reducible refine (comb_dot _ _ _ _ _ _ _ ((hs4.below hb5).more hb5.size) hs5).mono ?_);rintro e w' ⟨A7,c7,rfl,hb6,hs6⟩)))
 all_goals
  go_wp2
  go_ret
  exact ⟨A7,c7,rfl,bl_step (bl_step (bl_step (bl_drew HB3) hb4) hb5) hb6,hs6⟩
theorem dot_any (ux uy vx vy:Int) (fx:Fits 2 ux) (fy:Fits 2 uy) (gx:Fits 2 vx) (gy:Fits 2 vy) (A1 A2 A3 A4:Option Addr) (c1 c2 c3 c4:Nat) (w:World)
 (h1:Sl w w.heap.size A1 (uCs (lims 2 ux))) (h2:Sl w w.heap.size A2 (uCs (lims 2 uy))) (h3:Sl w w.heap.size A3 (uCs (lims 2 vx))) (h4:Sl w w.heap.size A4 (uCs (lims 2 vy))) :
 Calls Tryz.prog 298 #[.agg #[.slice A1 2 c1,.slice A2 2 c2],.agg #[.slice A3 2 c3,.slice A4 2 c4]] w (GaveN 4 (ux*vx+uy*vy) w):=by
 obtain ⟨w0,hw0⟩:∃ w0,w0=(w.alloc (.cells #[.slice A1 2 c1,.slice A2 2 c2] 284)).alloc (.cells #[.slice A3 2 c3,.slice A4 2 c4] 284):=⟨_,rfl⟩
 have hb0:Below w.heap.size w w0:=by rw [hw0];exact bl_alloc (bA) _
 have hz:=hb0.size
 have HP:=hide (prod_dot ux uy vx vy fx fy gx gy A1 A2 A3 A4 c1 c2 c3 c4 w0 ((h1.below hb0).more hz) ((h2.below hb0).more hz) ((h3.below hb0).more hz) ((h4.below hb0).more hz))
 clear h1 h2 h3 h4 fx fy gx gy
 go_enter Tryz.func298,Tryz.ntmps298
 go_wp2_with fail
 rw [← hw0]
 have HW0:=hide hw0
 clear hw0
 refine HP.out.mono ?_
 rintro e w1 ⟨A5,c5,rfl,hb1,hs⟩
 go_wp2
 go_ret
 exact ⟨A5,c5,rfl,bl_step hb0 hb1,hs⟩
end
section
open Go.RowKit
abbrev Pt:=Int × Int
def ptV (p:Pt):Value:=.agg #[.int .i64 p.1,.int .i64 p.2]
def PJ (p:Pt):Prop:=J64 p.1∧J64 p.2
def crossD (ux uy vx vy:Int):Int:=ux*vy - uy*vx
def orientD (a b c:Pt):Int:=crossD (b.1 - a.1) (b.2 - a.2) (c.1 - a.1) (c.2 - a.2)
theorem w2:(18446744073709551616:Int) ^ 2=340282366920938463463374607431768211456:=by decide +kernel
theorem w3e:(18446744073709551616:Int) ^ 3=6277101735386680763835789423207666416102355444464034512896:=by decide +kernel
theorem fits2_sub {a b:Int} (ha:J64 a) (hb:J64 b):Fits 2 (a - b):=by
 unfold J64 at ha hb;unfold Fits;rw [w2];omega
theorem prod_bd {a b M N:Int} (h1:-M≤a) (h2:a≤M) (h3:-N≤b) (h4:b≤N):-(M*N)≤a*b∧a*b≤M*N:=by
 have e1:0≤(M - a)*(N+b):=Int.mul_nonneg (by omega) (by omega)
 have e2:0≤(M+a)*(N - b):=Int.mul_nonneg (by omega) (by omega)
 have e3:0≤(M - a)*(N - b):=Int.mul_nonneg (by omega) (by omega)
 have e4:0≤(M+a)*(N+b):=Int.mul_nonneg (by omega) (by omega)
 rw [Int.sub_mul,Int.mul_add,Int.mul_add] at e1
 rw [Int.add_mul,Int.mul_sub,Int.mul_sub] at e2
 rw [Int.sub_mul,Int.mul_sub,Int.mul_sub] at e3
 rw [Int.add_mul,Int.mul_add,Int.mul_add] at e4
 omega
theorem crossD_bd {ux uy vx vy:Int} (h1:-18446744073709551615≤ux∧ux≤18446744073709551615) (h2:-18446744073709551615≤uy∧uy≤18446744073709551615) (h3:-18446744073709551615≤vx∧vx≤18446744073709551615) (h4:-18446744073709551615≤vy∧vy≤18446744073709551615) :
 -680564733841876926852962238568698216450≤crossD ux uy vx vy∧crossD ux uy vx vy≤680564733841876926852962238568698216450:=by
 have a:=prod_bd h1.1 h1.2 h4.1 h4.2
 have b:=prod_bd h2.1 h2.2 h3.1 h3.2
 unfold crossD
 omega
theorem sub_bd {a b:Int} (ha:J64 a) (hb:J64 b):-18446744073709551615≤a - b∧a - b≤18446744073709551615:=by unfold J64 at ha hb;omega
theorem fits3_orient {a b c:Pt} (ha:PJ a) (hb:PJ b) (hc:PJ c):Fits 3 (orientD a b c):=by
 have h:=crossD_bd (sub_bd hb.1 ha.1) (sub_bd hb.2 ha.2) (sub_bd hc.1 ha.1) (sub_bd hc.2 ha.2)
 unfold Fits orientD;rw [w3e];omega
def Held3P (w0:World) (b1 b2 b3:Nat) (x1 y1 x2 y2 x3 y3:Int) (w':World):Prop :=
 Below w0.heap.size w0 w'∧w'.cell? ⟨b1,0,none⟩=some (.int .i64 x1)∧w'.cell? ⟨b1,1,none⟩=some (.int .i64 y1)∧w'.cell? ⟨b2,0,none⟩=some (.int .i64 x2)∧w'.cell? ⟨b2,1,none⟩=some (.int .i64 y2)∧w'.cell? ⟨b3,0,none⟩=some (.int .i64 x3)∧w'.cell? ⟨b3,1,none⟩=some (.int .i64 y3)
theorem Held3P.keep {w0 wk w':World} {b1 b2 b3:Nat} {x1 y1 x2 y2 x3 y3:Int} (h:Held3P w0 b1 b2 b3 x1 y1 x2 y2 x3 y3 wk) (hb:Below wk.heap.size wk w'):Held3P w0 b1 b2 b3 x1 y1 x2 y2 x3 y3 w':=by
 have on:∀ {b o:Nat} {v:Value},wk.cell? ⟨b,o,none⟩=some v→w'.cell? ⟨b,o,none⟩=some v:=fun h=>(hb.cell (p:=⟨_,_,none⟩) (cell_lt h)).trans h
 obtain ⟨h0,h1,h2,h3,h4,h5,h6⟩:=h
 exact ⟨bl_step h0 hb,on h1,on h2,on h3,on h4,on h5,on h6⟩
theorem oval_any (a b c:Pt) (ha:PJ a) (hb:PJ b) (hc:PJ c) (w:World) :
 Calls Tryz.prog 187 #[.agg #[.int .i64 a.1,.int .i64 a.2],.agg #[.int .i64 b.1,.int .i64 b.2],.agg #[.int .i64 c.1,.int .i64 c.2]] w (GaveN 3 (orientD a b c) w):=by
 obtain ⟨w0,hw0⟩:∃ w0,w0=((w.alloc (.cells #[.int .i64 a.1,.int .i64 a.2] 41)).alloc (.cells #[.int .i64 b.1,.int .i64 b.2] 41)).alloc (.cells #[.int .i64 c.1,.int .i64 c.2] 41):=⟨_,rfl⟩
 have hb0:Below w.heap.size w w0:=by rw [hw0];exact bl_alloc (bl_alloc (bA) _) _
 have PA:Blk w0 w.heap.size 41 #[.int .i64 a.1,.int .i64 a.2]:=by rw [hw0];exact ((Blk.new _ _ _).alloc _).alloc _
 have PB:Blk w0 (w.heap.size+1) 41 #[.int .i64 b.1,.int .i64 b.2]:=by rw [hw0];exact (Blk.new2 _ _ _ _).alloc _
 have PC:Blk w0 (w.heap.size+1+1) 41 #[.int .i64 c.1,.int .i64 c.2]:=by
  rw [hw0]
  have h:=Blk.new ((w.alloc (.cells #[.int .i64 a.1,.int .i64 a.2] 41)).alloc (.cells #[.int .i64 b.1,.int .i64 b.2] 41)) 41 #[.int .i64 c.1,.int .i64 c.2]
  simpa using h
 have HB1:=hide (fun wk=>between_any a.1 a.2 b.1 b.2 ha.1 ha.2 hb.1 hb.2 wk)
 have HB2:=hide (fun wk=>between_any a.1 a.2 c.1 c.2 ha.1 ha.2 hc.1 hc.2 wk)
 have HCR:Hid (∀ (A1 A2 A3 A4:Option Addr) (c1 c2 c3 c4:Nat) (wk:World),Sl wk wk.heap.size A1 (uCs (lims 2 (b.1 - a.1)))→Sl wk wk.heap.size A2 (uCs (lims 2 (b.2 - a.2)))→Sl wk wk.heap.size A3 (uCs (lims 2 (c.1 - a.1)))→Sl wk wk.heap.size A4 (uCs (lims 2 (c.2 - a.2))) →
  Calls Tryz.prog 249 #[.agg #[.slice A1 2 c1,.slice A2 2 c2],.agg #[.slice A3 2 c3,.slice A4 2 c4]] wk (GaveN 4 (orientD a b c) wk)) :=
  hide fun A1 A2 A3 A4 c1 c2 c3 c4 wk h1 h2 h3 h4=>cross_any _ _ _ _ (fits2_sub hb.1 ha.1) (fits2_sub hb.2 ha.2) (fits2_sub hc.1 ha.1) (fits2_sub hc.2 ha.2) A1 A2 A3 A4 c1 c2 c3 c4 wk h1 h2 h3 h4
 have HEX:Hid (∀ (A:Option Addr) (k:Nat) (wk:World),Sl wk wk.heap.size A (uCs (lims 4 (orientD a b c)))→Calls Tryz.prog 248 #[.slice A 4 k,.int .i64 3] wk (GaveN 3 (orientD a b c) wk)) :=
  hide fun A k wk h=>callsN (extend_any 4 3 _ (.inr (by omega)) (by omega) (by omega) (by omega) (by omega) A k wk h)
 have a0:=PA.cell (i:=0) rfl
 have a1:=PA.cell (i:=1) rfl
 have b0:=PB.cell (i:=0) rfl
 have b1:=PB.cell (i:=1) rfl
 have c0:=PC.cell (i:=0) rfl
 have c1:=PC.cell (i:=1) rfl
 clear ha hb hc
 obtain ⟨a,a'⟩:=a
 obtain ⟨b,b'⟩:=b
 obtain ⟨c,c'⟩:=c
 dsimp only at *
 have h00:Held3P w0 w.heap.size (w.heap.size+1) (w.heap.size+1+1) a a' b b' c c' w0:=⟨Below.refl _ _,a0,a1,b0,b1,c0,c1⟩
 have hd0:=h00.keep (bl_drew (Below.refl _ _))
 go_enter Tryz.func187,Tryz.ntmps187
 go_wp2
 rw [← hw0]
 have HW0:=hide hw0
 clear hw0
 go_region_held3 (fun w'=>Below w0.heap.size w0 w'∧w'.cell? ⟨w.heap.size,0,none⟩=some (.int .i64 a)∧w'.cell? ⟨w.heap.size,1,none⟩=some (.int .i64 a')∧w'.cell? ⟨w.heap.size+1,0,none⟩=some (.int .i64 b)∧w'.cell? ⟨w.heap.size+1,1,none⟩=some (.int .i64 b')∧w'.cell? ⟨w.heap.size+1+1,0,none⟩=some (.int .i64 c)∧w'.cell? ⟨w.heap.size+1+1,1,none⟩=some (.int .i64 c'))
  (first | exact hd0 | exact h00 | exact Held3P.keep (by assumption) (by assumption) | exact hd0.keep (by assumption))
  (first
    | (go_at_call 250;((with_reducible refine (HB1.out _).mono ?_);rintro e w' ⟨A1,k1,A2,k2,rfl,hb1,hs1,hs2⟩;unfold vecVal))
    | (go_at_call 250;((with_reducible refine (HB2.out _).mono ?_);rintro e w' ⟨A3,k3,A4,k4,rfl,hb2,hs3,hs4⟩;unfold vecVal))
    | (go_at_call 249;((with_reducible refine (HCR.out _ _ _ _ _ _ _ _ _ ((hs1.below hb2).more hb2.size) ((hs2.below hb2).more hb2.size) hs3 hs4).mono ?_);rintro e w' ⟨A5,k5,rfl,hb3,hs5⟩))
    | (go_at_call 248;((with_reducible refine (HEX.out _ _ _ hs5).mono ?_);rintro e w' ⟨A6,k6,rfl,hb4,hs6⟩)))
 all_goals
  go_wp2
  go_ret
  exact ⟨A6,k6,rfl,bl_step (bl_step (bl_step (bl_step (bl_drew hb0) hb1) hb2) hb3) hb4,hs6⟩
theorem MWords.below {w w':World} {B:Nat} (h:MWords w) (hb:Below B w w') (hg:8<B):MWords w' :=
 ⟨(hb.cell (p:=⟨8,0,none⟩) hg).trans h.1,(hb.cell (p:=⟨8,1,none⟩) hg).trans h.2⟩
def MW (w:World):Prop:=MWords w∧8<w.heap.size
theorem MW.step {w w':World} (h:MW w) (hb:Below w.heap.size w w'):MW w':=⟨h.1.below hb h.2,Nat.lt_of_lt_of_le h.2 hb.size⟩
theorem osign_any (a b c:Pt) (ha:PJ a) (hb:PJ b) (hc:PJ c) (w:World) (hw:MW w) :
 Calls Tryz.prog 137 #[.agg #[.int .i64 a.1,.int .i64 a.2],.agg #[.int .i64 b.1,.int .i64 b.2],.agg #[.int .i64 c.1,.int .i64 c.2]] w fun e w'=>e=.returned (.int .i64 (orientD a b c).sign)∧Below w.heap.size w w':=by
 obtain ⟨w0,hw0⟩:∃ w0,w0=((w.alloc (.cells #[.int .i64 a.1,.int .i64 a.2] 41)).alloc (.cells #[.int .i64 b.1,.int .i64 b.2] 41)).alloc (.cells #[.int .i64 c.1,.int .i64 c.2] 41):=⟨_,rfl⟩
 have hb0:Below w.heap.size w w0:=by rw [hw0];exact bl_alloc (bl_alloc (bA) _) _
 have HV:=hide (oval_any a b c ha hb hc w0)
 have HF:=hide (fits3_orient ha hb hc)
 have HW:=hide (hw.step hb0)
 clear ha hb hc hw
 go_enter Tryz.func137,Tryz.ntmps137
 go_wp2_with fail
 rw [← hw0]
 have HW0:=hide hw0
 clear hw0
 refine HV.out.mono ?_
 rintro e w1 ⟨A1,c1,rfl,hb1,hs1⟩
 have hw1:=HW.out.step hb1
 have HS:=hide (lsign_any 3 _ HF.out (by omega) (by omega) A1 c1 w1 hs1 hw1.1 hw1.2)
 clear hs1 hw1
 go_wp2_with fail
 refine HS.out.mono ?_
 rintro e w2 ⟨rfl,hb2⟩
 go_wp2
 go_ret
 exact ⟨rfl,bl_step (bl_step hb0 hb1) hb2⟩
end
end Go.Proofs.YthnenedoblncjaaGreatDoor
