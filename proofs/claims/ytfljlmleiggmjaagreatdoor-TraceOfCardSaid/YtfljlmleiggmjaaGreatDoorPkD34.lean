/- SortB Exchange RecRow Sort -/
import Derived.Deep.CutBlock
import Derived.Test.YtfljlmleiggmjaaGreatDoorPkD29
import Derived.Test.YtfljlmleiggmjaaGreatDoorPkD33
set_option maxRecDepth 1000000
set_option maxHeartbeats 8000000
namespace Go.Proofs.YtfljlmleiggmjaaGreatDoor
open Go.Proofs.Tryz
open List (getElem_toArray getElem_cons_succ getElem_cons_zero setIfInBounds_toArray set_cons_zero set_cons_succ)
section
open Go.RowKit
theorem Ja{x y:Int × Int}(hx:Pp x)(hy:Pp y):(decide (y.1<x.1) || (decide (x.1=y.1) && decide (x.2<y.2)))=decide (Zh x<Zh y):=by
 obtain ⟨a,b⟩:=x;obtain ⟨c,d⟩:=y;unfold Zh;rcases hx with ⟨h1,h2,h3⟩|h1 <;> rcases hy with ⟨k1,k2,k3⟩|k1
 · dsimp only at *;subst h1;subst k1;simp;omega
 · cases k1;dsimp only at *;subst h1;simp;omega
 · cases h1;dsimp only at *;subst k1;simp;omega
 · cases h1;cases k1;simp
theorem j6(a b:Bool):bits BinOp.or IntKind.u64 (Zy a) (Zy b)=Zy (a || b):=by cases a <;> cases b <;> decide
abbrev Cy(w0:World)(s:Nat)(x1 x2 y1 y2:Int)(wk:World):Prop :=
 Below s w0 wk/\(wk.cell? ⟨s,0,none⟩=some (.int .u64 x1)/\wk.cell? ⟨s,1,none⟩=some (.int .u64 x2)/\wk.cell? ⟨s+1,0,none⟩=some (.int .u64 y1)/\wk.cell? ⟨s+1,1,none⟩=some (.int .u64 y2)) /\
  wk.frozen? ⟨s,0,none⟩=false/\wk.frozen? ⟨s,1,none⟩=false/\wk.frozen? ⟨s+1,0,none⟩=false/\wk.frozen? ⟨s+1,1,none⟩=false
theorem Cy.keep{w0:World}{s:Nat}{x1 x2 y1 y2:Int}{wk w':World}(h:Cy w0 s x1 x2 y1 y2 wk)(hb:Below wk.heap.size wk w'):Cy w0 s x1 x2 y1 y2 w':=by
 have on:∀ {b o:Nat} {v:Value},wk.cell? ⟨b,o,none⟩=some v->w'.cell? ⟨b,o,none⟩=some v:=fun h=>(hb.cell (p:=⟨_,_,none⟩) (Zv h)).trans h;obtain ⟨h0,⟨h1,h2,h3,h4⟩,f1,f2,f3,f4⟩:=h;have l1:=Zv h1;have l2:=Zv h3;exact ⟨h0.trans (hb.mono (Nat.le_of_lt l1)),⟨on h1,on h2,on h3,on h4⟩,(hb.frozen (p:=⟨_,_,none⟩) l1).trans f1,(hb.frozen (p:=⟨_,_,none⟩) l1).trans f2,(hb.frozen (p:=⟨_,_,none⟩) l2).trans f3,(hb.frozen (p:=⟨_,_,none⟩) l2).trans f4⟩
theorem Tw{w:World}{p:Addr}{v:Value}(h:w.cell? p=some v)(q:Addr):(w.setCell p v).cell? q=w.cell? q:=by
 by_cases hpq:p=q
 · subst hpq;rw [World.cell?_setCell_same _ _ _ h,h]
 · exact World.cell?_setCell_other _ _ _ _ hpq
theorem Cy.set2{w0:World}{s b:Nat}{x1 x2 y1 y2:Int}{wk:World}{u v:Value}(h:Cy w0 s x1 x2 y1 y2 wk)(hb:s<=b)(h1:wk.cell? ⟨b,0,none⟩=some u)(h2:wk.cell? ⟨b,1,none⟩=some v):Cy w0 s x1 x2 y1 y2 ((wk.setCell ⟨b,0,none⟩ u).setCell ⟨b,1,none⟩ v):=by
 have e:∀ q,((wk.setCell ⟨b,0,none⟩ u).setCell ⟨b,1,none⟩ v).cell? q=wk.cell? q:=fun q=>by
  rw [Tw (by rw [Tw h1];exact h2),Tw h1]
 have fz:∀ q,((wk.setCell ⟨b,0,none⟩ u).setCell ⟨b,1,none⟩ v).frozen? q=wk.frozen? q:=fun q=>by rw [World.frozen?_setCell,World.frozen?_setCell]
 obtain ⟨h0,⟨k1,k2,k3,k4⟩,f1,f2,f3,f4⟩:=h;exact ⟨(h0.setCell hb _).setCell hb _,⟨by rw [e];exact k1,by rw [e];exact k2,by rw [e];exact k3,by rw [e];exact k4⟩,(fz _).trans f1,(fz _).trans f2,(fz _).trans f3,(fz _).trans f4⟩
theorem Cy.zli{w0:World}{s:Nat}{x1 x2 y1 y2:Int}{wk:World}(h:Cy w0 s x1 x2 y1 y2 wk):Cy w0 s x1 x2 y1 y2 ((wk.setCell ⟨s,0,none⟩ (.int .u64 x1)).setCell ⟨s,1,none⟩ (.int .u64 x2)) :=
 h.set2 (Nat.le_refl _) h.2.1.1 h.2.1.2.1
theorem Cy.zlj{w0:World}{s:Nat}{x1 x2 y1 y2:Int}{wk:World}(h:Cy w0 s x1 x2 y1 y2 wk):Cy w0 s x1 x2 y1 y2 ((wk.setCell ⟨s+1,0,none⟩ (.int .u64 y1)).setCell ⟨s+1,1,none⟩ (.int .u64 y2)) :=
 h.set2 (Nat.le_succ _) h.2.1.2.2.1 h.2.1.2.2.2
abbrev LeT(w0:World)(s:Nat)(x1 x2 y1 y2:Int)(wk:World):Prop :=
 Below s w0 wk/\wk.cell? ⟨s,0,none⟩=some (.int .u64 x1)/\wk.cell? ⟨s,1,none⟩=some (.int .u64 x2)/\wk.cell? ⟨s+1,0,none⟩=some (.int .u64 y1)/\wk.cell? ⟨s+1,1,none⟩=some (.int .u64 y2)
theorem LeT.keep{w0:World}{s:Nat}{x1 x2 y1 y2:Int}{wk w':World}(h:LeT w0 s x1 x2 y1 y2 wk)(hb:Below wk.heap.size wk w'):LeT w0 s x1 x2 y1 y2 w':=by
 have on:∀ {b o:Nat} {v:Value},wk.cell? ⟨b,o,none⟩=some v->w'.cell? ⟨b,o,none⟩=some v:=fun h=>(hb.cell (p:=⟨_,_,none⟩) (Zv h)).trans h;obtain ⟨h0,h1,h2,h3,h4⟩:=h;exact ⟨h0.trans (hb.mono (Nat.le_of_lt (Zv h1))),on h1,on h2,on h3,on h4⟩
theorem xw(x y:Int × Int)(hx:Pp x)(hy:Pp y)(w:World):Calls prog 215 #[.agg #[.int .u64 x.1,.int .u64 x.2],.agg #[.int .u64 y.1,.int .u64 y.2]] w fun e w'=>e=.returned (.int .u64 (Zy (decide (Zh x<Zh y))))/\Below w.heap.size w w':=by
 have ux:Uf x.1/\Uf x.2:=by
  rcases hx with ⟨h1,h2,h3⟩|h
  · exact ⟨by rw [h1];exact ⟨by decide,by decide⟩,h2,h3⟩
  · rw [h];exact ⟨⟨by decide,by decide⟩,by decide,by decide⟩
 have uy:Uf y.1/\Uf y.2:=by
  rcases hy with ⟨h1,h2,h3⟩|h
  · exact ⟨by rw [h1];exact ⟨by decide,by decide⟩,h2,h3⟩
  · rw [h];exact ⟨⟨by decide,by decide⟩,by decide,by decide⟩
 have hl:=Ja hx hy;have HCX:=hide (fun wk=>Qz x.1 x.2 ux.1.1 ux.1.2 ux.2.1 ux.2.2 wk);have HCY:=hide (fun wk=>Qz y.1 y.2 uy.1.1 uy.1.2 uy.2.1 uy.2.2 wk);rw [Bu hx] at HCX;rw [Bu hy] at HCY;have Cv:=hide (fun wk=>Iw y.1 x.1 uy.1.1 uy.1.2 ux.1.1 ux.1.2 wk);have HE:=hide (fun wk=>Hw x.1 y.1 ux.1.1 ux.1.2 uy.1.1 uy.1.2 wk);have HL2:=hide (fun wk=>Iw x.2 y.2 ux.2.1 ux.2.2 uy.2.1 uy.2.2 wk);obtain ⟨K,hK⟩:=eE (decide (Zh x<Zh y));rw [<- hK] at hl ⊢;obtain ⟨b1,hb1⟩:=eE (decide (y.1<x.1));obtain ⟨b2,hb2⟩:=eE (decide (x.1=y.1));obtain ⟨b3,hb3⟩:=eE (decide (x.2<y.2));rw [<- hb1,<- hb2,<- hb3] at hl;rw [<- hb1] at Cv;rw [<- hb2] at HE;rw [<- hb3] at HL2;have ha:=LM b2 b3;have ho:=j6 b1 (b2 && b3);rw [hl] at ho;clear hK hb1 hb2 hb3 hl ux uy hx hy;obtain ⟨x1,x2⟩:=x;obtain ⟨y1,y2⟩:=y;dsimp only at *;obtain ⟨s,hs⟩:=eE w.heap.size;obtain ⟨w0,hw0⟩:=eE ((w.alloc (.cells #[.int .u64 x1,.int .u64 x2] 150)).alloc (.cells #[.int .u64 y1,.int .u64 y2] 150));have hb0:=bF hw0;have X0:Z6 w0 s 150 #[.int .u64 x1,.int .u64 x2]:=by rw [hw0,hs];exact (Z6.new _ _ _).alloc _
 have Y0:Z6 w0 (s+1) 150 #[.int .u64 y1,.int .u64 y2]:=by rw [hw0,hs];exact Z6.new2 _ _ _ _
 have h00:Cy w s x1 x2 y1 y2 w0:=⟨by rw [hs];exact hb0,⟨X0.q0 rfl,X0.q1 rfl,Y0.q0 rfl,Y0.q1 rfl⟩,X0.frozen 0,X0.frozen 1,Y0.frozen 0,Y0.frozen 1⟩;have hd0:=h00.keep (ZV (Below.refl _ _));go_enter func215,ntmps215;go_wp2;rw [<- hw0,<- hs];have HW0:=hide hw0;have HS:=hide hs;clear hw0 hs hb0 X0 Y0
 go_region_held3 (fun w'=>Below s w w'/\(w'.cell? ⟨s,0,none⟩=some (.int .u64 x1)/\w'.cell? ⟨s,1,none⟩=some (.int .u64 x2)/\w'.cell? ⟨s+1,0,none⟩=some (.int .u64 y1)/\w'.cell? ⟨s+1,1,none⟩=some (.int .u64 y2))/\w'.frozen? ⟨s,0,none⟩=false/\w'.frozen? ⟨s,1,none⟩=false/\w'.frozen? ⟨s+1,0,none⟩=false/\w'.frozen? ⟨s+1,1,none⟩=false)
  (first|with_reducible exact hd0|with_reducible exact h00|with_reducible exact Cy.zli (by assumption)|with_reducible exact Cy.zlj (by assumption)|with_reducible exact Cy.keep (by assumption) (by assumption)|with_reducible exact hd0.keep (by assumption))
  (first
    | (go_at_call 183;((with_reducible refine (HCX.out _).mono ?_);rintro e w' ⟨rfl,hb1⟩))
    | (go_at_call 183;((with_reducible refine (HCY.out _).mono ?_);rintro e w' ⟨rfl,hb2⟩)))
 all_goals
  rename_i XQ
  obtain ⟨h5,⟨z0,z1,z2,z3⟩,f0,f1,f2,f3⟩:=XQ;clear hb1 hb2 h00 hd0 HCX HCY f0 f1 f2 f3;obtain ⟨w3,hw3⟩:=eE ((((w'.setCell ⟨s,0,none⟩ (.int .u64 x1)).setCell ⟨s,1,none⟩ (.int .u64 x2)).setCell ⟨s+1,0,none⟩ (.int .u64 y1)).setCell ⟨s+1,1,none⟩ (.int .u64 y2));rw [<- hw3] at h5 z0 z1 z2 z3 ⊢;clear hw3;go_wp2;have h03:LeT w s x1 x2 y1 y2 w3:=⟨h5,z0,z1,z2,z3⟩;have h13:=h03.keep (ZV (Below.refl _ _))
  go_region_held3 (fun w'=>Below s w w'/\w'.cell? ⟨s,0,none⟩=some (.int .u64 x1)/\w'.cell? ⟨s,1,none⟩=some (.int .u64 x2)/\w'.cell? ⟨s+1,0,none⟩=some (.int .u64 y1)/\w'.cell? ⟨s+1,1,none⟩=some (.int .u64 y2))
   (first|with_reducible exact h13|with_reducible exact h03|with_reducible assumption)
   (first
     | (go_at_call 233;((with_reducible refine (Cv.out _).mono ?_);rintro e w' ⟨rfl,rfl⟩))
     | (go_at_call 233;((with_reducible refine (HL2.out _).mono ?_);rintro e w' ⟨rfl,rfl⟩))
     | (go_at_call 234;((with_reducible refine (HE.out _).mono ?_);rintro e w' ⟨rfl,rfl⟩)))
  go_wp2;go_ret;refine ⟨rfl,?_⟩;rw [<- HS.out];exact below_drewN h5 _
end
section
open Go.RowKit
def mM(w:World)(g:Nat)(t:TypeId)(cs:Array Value)(o1 o2:Nat)(u1 u2:Value)(w':World):Prop :=
 ∃ cs':Array Value,Z6 w' g t cs'/\cs'.size=cs.size/\cs'[o1]?=some u1/\cs'[o2]?=some u2/\(∀ j,j≠o1->j≠o2->cs'[j]?=cs[j]?)/\w.grownBy w' (some g)
theorem Ih(w:World)(g o:Nat)(u:Value):w.grownBy (w.setCell ⟨g,o,none⟩ u) (some g) :=
 ⟨rfl,rfl,rfl,Nat.le_of_eq (World.size_setCell ..).symm,fun k _ hk=>Below.heap_setCell w ⟨g,o,none⟩ u k (fun e=>hk (by rw [e]))⟩
theorem Dx{a b:World}{row:Option Nat}(h:a.grownBy b row):a.grownBy b.drew row:=⟨h.os,h.tape,h.output,h.size,h.block⟩
theorem Dw{a b:World}{g:Nat}(h:Below a.heap.size a b):a.grownBy b (some g):=⟨h.os,h.tape,h.output,h.size,fun i hi _=>h.block i hi⟩
theorem mM.ab{w:World}{g:Nat}{t:TypeId}{cs:Array Value}{o1 o2:Nat}(h:Z6 w g t cs)(h1:o1<cs.size)(h2:o2<cs.size)(hne:o1≠o2)(u1 u2:Value):mM w g t cs o1 o2 u1 u2 ((w.setCell ⟨g,o1,none⟩ u1).setCell ⟨g,o2,none⟩ u2).drew:=by
 refine ⟨_,((h.set o1 u1).set o2 u2).drew,by simp,?_,?_,fun j n1 n2=>?_,?_⟩
 · rw [Array.getElem?_setIfInBounds,if_neg (Ne.symm hne),Array.getElem?_setIfInBounds,if_pos rfl,if_pos h1]
 · rw [Array.getElem?_setIfInBounds,if_pos rfl,if_pos (by simpa using h2)]
 · rw [Array.getElem?_setIfInBounds,if_neg (Ne.symm n2),Array.getElem?_setIfInBounds,if_neg (Ne.symm n1)]
 · exact Dx ((Ih _ _ _ _).trans (Ih _ _ _ _))
theorem mM.ba{w:World}{g:Nat}{t:TypeId}{cs:Array Value}{o1 o2:Nat}(h:Z6 w g t cs)(h1:o1<cs.size)(h2:o2<cs.size)(hne:o1≠o2)(u1 u2:Value):mM w g t cs o1 o2 u1 u2 ((w.setCell ⟨g,o2,none⟩ u2).setCell ⟨g,o1,none⟩ u1).drew:=by
 obtain ⟨cs',a1,a2,a3,a4,a5,a6⟩:=mM.ab h h2 h1 (Ne.symm hne) u2 u1;exact ⟨cs',a1,a2,a4,a3,fun j n1 n2=>a5 j n2 n1,a6⟩
def ExQ(w:World)(g:Nat)(t:TypeId)(cs:Array Value)(o1 o2:Nat)(l h:Int × Int)(w':World):Prop :=
 ∃ cs':Array Value,Z6 w' g t cs'/\cs'.size=cs.size/\cs'[o1]?=some (.int .u64 l.1)/\cs'[o1+1]?=some (.int .u64 l.2) /\
   cs'[o2]?=some (.int .u64 h.1)/\cs'[o2+1]?=some (.int .u64 h.2)/\(∀ j,j≠o1->j≠o1+1->j≠o2->j≠o2+1->cs'[j]?=cs[j]?)/\w.grownBy w' (some g)
theorem ExQ.of {w wc wd wx:World} {g:Nat} {t:TypeId} {cs cs1:Array Value} {o1 o2:Nat} {l h:Int × Int} (hne:o1+1<o2\/o2+1<o1) (hb:Below w.heap.size w wc) (hg:wc.grownBy wd (some g)) (hs:cs1.size=cs.size)
 (e1:cs1[o1]?=some (.int .u64 l.1)) (e2:cs1[o2]?=some (.int .u64 h.1)) (e3:∀ j,j≠o1->j≠o2->cs1[j]?=cs[j]?) (hx:mM wd g t cs1 (o1+1) (o2+1) (.int .u64 l.2) (.int .u64 h.2) wx):ExQ w g t cs o1 o2 l h wx:=by
 obtain ⟨cs2,B,s2,a1,a2,a3,hg2⟩:=hx;exact ⟨cs2,B,s2.trans hs,(a3 _ (by omega) (by omega)).trans e1,a1,(a3 _ (by omega) (by omega)).trans e2,a2,fun j n1 n2 n3 n4=>(a3 j n2 n4).trans (e3 j n1 n3),(Dw hb).trans (hg.trans hg2)⟩
section
variable (g:Nat)(t:TypeId)(cs:Array Value)(o1 o2:Nat)(x y:Int × Int)(hx:Pp x)(hy:Pp y)(w:World)
variable (hb:Z6 w g t cs)(c1:cs[o1]?=some (.int .u64 x.1))(c2:cs[o1+1]?=some (.int .u64 x.2))(c3:cs[o2]?=some (.int .u64 y.1))(c4:cs[o2+1]?=some (.int .u64 y.2))(hne:o1+1<o2\/o2+1<o1)
include hx hy hb c1 c2 c3 c4 hne
theorem FD:Calls prog 185 #[.pointer (some ⟨g,o1,none⟩),.pointer (some ⟨g,o2,none⟩)] w fun e w'=>e=.returned (.tuple #[])/\ExQ w g t cs o1 o2 (if Zh y<Zh x then y else x) (if Zh y<Zh x then x else y) w':=by
 have ux:Uf x.1/\Uf x.2:=by
  rcases hx with ⟨h1,h2,h3⟩|h
  · exact ⟨by rw [h1];exact ⟨by decide,by decide⟩,h2,h3⟩
  · rw [h];exact ⟨⟨by decide,by decide⟩,by decide,by decide⟩
 have uy:Uf y.1/\Uf y.2:=by
  rcases hy with ⟨h1,h2,h3⟩|h
  · exact ⟨by rw [h1];exact ⟨by decide,by decide⟩,h2,h3⟩
  · rw [h];exact ⟨⟨by decide,by decide⟩,by decide,by decide⟩
 have HL:=hide (fun wk=>xw y x hy hx wk);obtain ⟨m,hm⟩:=eE (decide (Zh y<Zh x));rw [<- hm] at HL;have eL:(if Zh y<Zh x then y else x)=(bif m then y.1 else x.1,bif m then y.2 else x.2):=by by_cases hk:Zh y<Zh x <;> simp [hm,hk]
 have eH:(if Zh y<Zh x then x else y)=(bif m then x.1 else y.1,bif m then x.2 else y.2):=by by_cases hk:Zh y<Zh x <;> simp [hm,hk]
 rw [eL,eH];clear eL eH;have Lv:=hide (fun wk=>EL m x.1 y.1 ux.1.1 ux.1.2 uy.1.1 uy.1.2 wk);have HS2:=hide (fun wk=>EL m x.2 y.2 ux.2.1 ux.2.2 uy.2.1 uy.2.2 wk);clear hm ux uy hx hy;obtain ⟨x1,x2⟩:=x;obtain ⟨y1,y2⟩:=y;dsimp only at *;obtain ⟨l1,hl1⟩:=eE (bif m then y1 else x1);obtain ⟨h1,hh1⟩:=eE (bif m then x1 else y1);obtain ⟨l2,hl2⟩:=eE (bif m then y2 else x2);obtain ⟨h2,iN⟩:=eE (bif m then x2 else y2);rw [<- hl1,<- hh1] at Lv ⊢;rw [<- hl2,<- iN] at HS2 ⊢;clear hl1 hh1 hl2 iN;have n1:¬ o1=o2:=by omega
 have n2:¬ o1+1=o2+1:=by omega
 have lt1:o1<cs.size:=by have:=(Array.getElem?_eq_some_iff.1 c1).1;exact this
 have lt2:o1+1<cs.size:=by have:=(Array.getElem?_eq_some_iff.1 c2).1;exact this
 have lt3:o2<cs.size:=by have:=(Array.getElem?_eq_some_iff.1 c3).1;exact this
 have lt4:o2+1<cs.size:=by have:=(Array.getElem?_eq_some_iff.1 c4).1;exact this
 have z1:=hb.cell c1;have z2:=hb.cell c2;have z3:=hb.cell c3;have z4:=hb.cell c4;have h00:Below w.heap.size w w/\w.cell? ⟨g,o1,none⟩=some (.int .u64 x1)/\w.cell? ⟨g,o1+1,none⟩=some (.int .u64 x2)/\w.cell? ⟨g,o2,none⟩=some (.int .u64 y1)/\w.cell? ⟨g,o2+1,none⟩=some (.int .u64 y2):=⟨Below.refl _ _,z1,z2,z3,z4⟩;have h10:Below w.heap.size w w.drew/\w.drew.cell? ⟨g,o1,none⟩=some (.int .u64 x1)/\w.drew.cell? ⟨g,o1+1,none⟩=some (.int .u64 x2)/\w.drew.cell? ⟨g,o2,none⟩=some (.int .u64 y1)/\w.drew.cell? ⟨g,o2+1,none⟩=some (.int .u64 y2):=⟨ZV (Below.refl _ _),z1,z2,z3,z4⟩
 have HK:Hid (∀ w',Below w.drew.heap.size w.drew w'->Below w.heap.size w w'/\w'.cell? ⟨g,o1,none⟩=some (.int .u64 x1)/\w'.cell? ⟨g,o1+1,none⟩=some (.int .u64 x2)/\w'.cell? ⟨g,o2,none⟩=some (.int .u64 y1)/\w'.cell? ⟨g,o2+1,none⟩=some (.int .u64 y2)):=hide fun w' k=>by
  have B:=hb.drew.step k;exact ⟨XG k,B.cell c1,B.cell c2,B.cell c3,B.cell c4⟩
 have Mt:=hide hb;have C1:=hide c1;have C2:=hide c2;have C3:=hide c3;have C4:=hide c4;have LT:=hide (And.intro lt1 (And.intro lt2 (And.intro lt3 lt4)));have Od:=hide hne;clear hb c1 c2 c3 c4 lt1 lt2 lt3 lt4 hne z1 z2 z3 z4;go_enter func185,ntmps185
 go_upto_region 0 with fail
 go_cut [4] from 4 to 11 (fun u wc=>u=.int .u64 (Zy m)/\Below w.heap.size w wc)
 · go_region_held3 (fun w'=>Below w.heap.size w w'/\w'.cell? ⟨g,o1,none⟩=some (.int .u64 x1)/\w'.cell? ⟨g,o1+1,none⟩=some (.int .u64 x2)/\w'.cell? ⟨g,o2,none⟩=some (.int .u64 y1)/\w'.cell? ⟨g,o2+1,none⟩=some (.int .u64 y2))
    (first|with_reducible exact h10|with_reducible exact h00|with_reducible assumption|exact HK.out _ (by assumption))
    (first|(go_at_call 215;((with_reducible refine (HL.out _).mono ?_);rintro e w' ⟨rfl,hb1⟩)))
   all_goals
    go_wp2_with fail
    go_meet
    exact ⟨rfl,XG hb1⟩
 · obtain ⟨rfl,hbc⟩:=hcut;have B1:=Mt.out.step hbc;obtain ⟨lt1,lt2,lt3,lt4⟩:=LT.out;have z1:=B1.cell C1.out;have z3:=B1.cell C3.out;have f1:=B1.frozen o1;have f3:=B1.frozen o2;have HB1:=hide B1;have fO:=hide hbc;clear B1 hbc h00 h10 lt1 lt2 lt3 lt4
   go_upto_region 1 with fail
   go_cut [12] from 12 to 30 (fun _ wd=>mM wc g t cs o1 o2 (.int .u64 l1) (.int .u64 h1) wd)
   · go_region_with (first|(go_at_call 216;refine (Lv.out _).mono ?_;rintro e w1 ⟨rfl,rfl⟩))
     all_goals
      go_wp2_with fail
      go_meet
      first
       | exact mM.ab HB1.out LT.out.1 LT.out.2.2.1 n1 _ _
       | exact mM.ba HB1.out LT.out.1 LT.out.2.2.1 n1 _ _
   · obtain ⟨cs1,B2,hs1,e1,e2,e3,hg1⟩:=hcut;have k2:cs1[o1+1]?=some (.int .u64 x2):=(e3 _ (by omega) (by have:=Od.out;omega)).trans C2.out;have k4:cs1[o2+1]?=some (.int .u64 y2):=(e3 _ (by have:=Od.out;omega) (by omega)).trans C4.out;have z2:=B2.cell k2;have z4:=B2.cell k4;have f2:=B2.frozen (o1+1);have f4:=B2.frozen (o2+1);have HB2:=hide B2;have E1:=hide e1;have E2:=hide e2;have E3:=hide e3;have HG:=hide hg1;have HS:=hide hs1;clear B2 e1 e2 e3 hg1 hs1 k2 k4 z1 z3 f1 f3;go_wp2_with fail
     go_region_with (first|(go_at_call 216;refine (HS2.out _).mono ?_;rintro e w1 ⟨rfl,rfl⟩))
     all_goals
      go_wp2;go_end0;refine ⟨rfl,?_⟩
      first
       | exact ExQ.of Od.out fO.out HG.out HS.out E1.out E2.out E3.out (mM.ab HB2.out (by rw [HS.out];exact LT.out.2.1) (by rw [HS.out];exact LT.out.2.2.2) n2 _ _)
       | exact ExQ.of Od.out fO.out HG.out HS.out E1.out E2.out E3.out (mM.ba HB2.out (by rw [HS.out];exact LT.out.2.1) (by rw [HS.out];exact LT.out.2.2.2) n2 _ _)
end
end
section
open Go.RowKit
def QL(l:List (Int × Int)):Array Value:=(Zt l).toArray
theorem OW(l:List (Int × Int)):(QL l).size=l.length*2:=by
 unfold QL;rw [List.size_toArray];exact YK (fun p:Int × Int=>[Value.int .u64 p.1,.int .u64 p.2]) 2 (fun _=>rfl) l
theorem Vd{l:List (Int × Int)}{k:Nat}{r:Int × Int}(h:l[k]?=some r):(QL l)[k*2]?=some (.int .u64 r.1)/\(QL l)[k*2+1]?=some (.int .u64 r.2):=by
 have h0:=flat_get (fun p:Int × Int=>[Value.int .u64 p.1,.int .u64 p.2]) 2 (fun _=>rfl) l k r h;have e0:=h0 0 (by omega);have e1:=h0 1 (by omega);rw [Nat.add_zero] at e0;unfold QL;rw [List.getElem?_toArray,List.getElem?_toArray];exact ⟨e0,e1⟩
theorem F7{cs:Array Value}{l:List (Int × Int)}(hs:cs.size=l.length*2)(h:∀ k r,l[k]?=some r->cs[k*2]?=some (.int .u64 r.1)/\cs[k*2+1]?=some (.int .u64 r.2)):cs=QL l:=by
 refine Array.ext_getElem? fun i=>?_
 by_cases hi:i<l.length*2
 · have hk:i / 2<l.length:=(by omega);have h1:=h (i / 2) l[i / 2] (List.getElem?_eq_getElem hk);have h2:=Vd (List.getElem?_eq_getElem hk);rcases Nat.mod_two_eq_zero_or_one i with hm|hm
   · have e:i=i / 2*2:=(by omega);rw [e,h1.1,h2.1]
   · have e:i=i / 2*2+1:=(by omega);rw [e,h1.2,h2.2]
 · rw [Array.getElem?_eq_none (by omega),Array.getElem?_eq_none (by rw [OW];omega)]
theorem iC {w w':World} {g lo hi:Nat} {t:TypeId} {l:List (Int × Int)} {x y:Int × Int} (hx:l[lo]?=some x) (hy:l[hi]?=some y) (hne:lo≠hi)
 (h:ExQ w g t (QL l) (lo*2) (hi*2) (if Zh y<Zh x then y else x) (if Zh y<Zh x then x else y) w'):Z6 w' g t (QL (PL Zh l (lo,hi)))/\w.grownBy w' (some g):=by
 obtain ⟨cs,B,s1,a1,a2,a3,a4,a5,hg⟩:=h;have hlo:lo<l.length:=(List.getElem?_eq_some_iff.1 hx).1;have hhi:hi<l.length:=(List.getElem?_eq_some_iff.1 hy).1;refine ⟨?_,hg⟩;have e:cs=QL (PL Zh l (lo,hi)):=by
  refine F7 (by rw [s1,OW,MK]) fun k r hk=>?_;unfold PL at hk;dsimp only at hk;rw [hx,hy] at hk;dsimp only at hk
  by_cases hlt:Zh y<Zh x
  · rw [if_pos hlt] at hk a1 a2 a3 a4
    by_cases k1:k=hi
    · subst k1;rw [List.getElem?_set_self (by rw [List.length_set];exact hhi)] at hk;cases hk;exact ⟨a3,a4⟩
    · rw [List.getElem?_set_ne (Ne.symm k1)] at hk
      by_cases k2:k=lo
      · subst k2;rw [List.getElem?_set_self hlo] at hk;cases hk;exact ⟨a1,a2⟩
      · rw [List.getElem?_set_ne (Ne.symm k2)] at hk;have h2:=Vd hk;exact ⟨(a5 _ (by omega) (by omega) (by omega) (by omega)).trans h2.1,(a5 _ (by omega) (by omega) (by omega) (by omega)).trans h2.2⟩
  · rw [if_neg hlt] at hk a1 a2 a3 a4
    by_cases k1:k=hi
    · subst k1;rw [hy] at hk;cases hk;exact ⟨a3,a4⟩
    · by_cases k2:k=lo
      · subst k2;rw [hx] at hk;cases hk;exact ⟨a1,a2⟩
      · have h2:=Vd hk;exact ⟨(a5 _ (by omega) (by omega) (by omega) (by omega)).trans h2.1,(a5 _ (by omega) (by omega) (by omega) (by omega)).trans h2.2⟩
 rw [<- e];exact B
theorem kS(l:List (Int × Int))(N:Nat)(h:l.length<=N):
 ((madeCells #[.int .u64 0,.int .u64 0] (N*2)).toList.take 0++Zt l++(madeCells #[.int .u64 0,.int .u64 0] (N*2)).toList.drop (0+(Zt l).length)).toArray=QL (l++List.replicate (N - l.length) (0,0)):=by
 have hl:(Zt l).length=l.length*2:=YK (fun p:Int × Int=>[Value.int .u64 p.1,.int .u64 p.2]) 2 (fun _=>rfl) l
 have hz:∀ i,i<N*2->(madeCells #[.int .u64 0,.int .u64 0] (N*2))[i]?=some (.int .u64 0):=fun i hi=>by
  have:i % 2=0\/i % 2=1:=by omega
  unfold madeCells;rw [Array.getElem?_map,Array.getElem?_range];rw [if_pos hi];rcases this with h|h <;> simp [h]
 refine F7 (by simp [size_madeCells,hl];omega) fun k r hk=>?_;rw [List.take_zero,List.nil_append,Nat.zero_add,List.getElem?_toArray,List.getElem?_toArray]
 by_cases hkl:k<l.length
 · rw [List.getElem?_append_left hkl] at hk;have h0:=Vd hk;unfold QL at h0;rw [List.getElem?_toArray,List.getElem?_toArray] at h0;rw [List.getElem?_append_left (by omega),List.getElem?_append_left (by omega)];exact h0
 · rw [List.getElem?_append_right (by omega)] at hk;have hk2:=List.getElem?_eq_some_iff.1 hk;obtain ⟨hk3,hk4⟩:=hk2;rw [List.length_replicate] at hk3;rw [List.getElem_replicate] at hk4;subst hk4;rw [List.getElem?_append_right (by omega),List.getElem?_append_right (by omega),List.getElem?_drop,List.getElem?_drop,Array.getElem?_toList,Array.getElem?_toList];exact ⟨hz _ (by omega),hz _ (by omega)⟩
theorem Z6.same{w:World}{g:Nat}{t:TypeId}{cs:Array Value}(h:Z6 w g t cs){i:Nat}{u:Value}(hi:cs[i]?=some u):Z6 (w.setCell ⟨g,i,none⟩ u) g t cs:=by
 have h1:=h.set i u;have e:cs.setIfInBounds i u=cs:=by
  refine Array.ext_getElem? fun j=>?_;rw [Array.getElem?_setIfInBounds]
  by_cases hj:i=j
  · subst hj;rw [if_pos rfl,if_pos (Array.getElem?_eq_some_iff.1 hi).1,hi]
  · rw [if_neg hj]
 rw [e] at h1;exact h1
theorem wU(l:List (Int × Int)):∀ v∈Zt l,v.oneCell'=true:=by
 intro v hv;obtain ⟨r,_,hr⟩:=List.mem_flatMap.1 hv;simp at hr;rcases hr with rfl|rfl <;> rfl
end
section
open Go.RowKit Go.Shelf
attribute [local go_sem] Oper.semAt_some
def xA(l:List (Int × Int))(cs:List (Nat × Nat)):List (Int × Int):=cs.foldl (PL Zh) l
def UM(rs:List (Int × Int)):List (Int × Int):=rs++List.replicate (2 ^ lg rs.length - rs.length) (0,0)
theorem sF(l:List (Int × Int))(cs:List (Nat × Nat))(c:Nat × Nat):xA l (cs++[c])=PL Zh (xA l cs) c:=by simp [xA]
theorem Ee(cs:List (Nat × Nat))(c:Nat × Nat):Y3 (cs++[c])=Y3 cs++[(3,(c.1:Int),(c.2:Int))]:=by simp [Y3]
theorem rD{rs:List (Int × Int)}(h:∀ r∈rs,Pp r):∀ r∈UM rs,Pp r:=fun r hr=>by
 rcases List.mem_append.1 hr with hr|hr
 · exact h r hr
 · rw [List.eq_of_mem_replicate hr];exact .inr rfl
theorem Ed{rs:List (Int × Int)}(h:rs.length<=4096):(UM rs).length=2 ^ lg rs.length:=by
 have:=qK h;unfold UM;rw [List.length_append,List.length_replicate];omega
theorem Le(l:List (Int × Int))(cs:List (Nat × Nat)):(xA l cs).Perm l:=QF Zh cs l
section
variable {F:Fence}{n:Nat}{P:Program}{ops:Array Oper}{Q:Exit->Act->World->Prop}{S:World->Prop}
def CU(K:Act->World->Prop):Exit->Act->World->Prop
 | .normal,a,w=>K a w
 | _,_,_=>False
theorem CU.intro{K:Act->World->Prop}{a:Act}{w:World}(h:K a w):CU K .normal a w:=h
theorem bW (sk:Nat) {id:Nat} {a:Act} {w:World} (hm:P.follows .mixedOrders=true)
 (h:YD F n P .any ops (CU (Q .normal)) S sk ops.size (Array.replicate ops.size false) a w.drew):(Code.region id ops true).wpIn F n P Q a w:=by
 refine wpIn_mono (Xy sk (Q:=CU (Q .normal)) hm h) ?_;intro e a w he;cases e with
 | normal=>exact he
 | _=>exact he.elim
end
theorem Bg(P:Nat->Prop)(t:Option (Nat × Nat))(es:List Ev)(k a b:Int)(w:World)(hP:∀ j,P j->j<w.heap.size)(ht:Tp w P t es)(hl:t=none\/es.length<=1000000)(hk:Yu k):
 Calls prog 43 #[.pointer (Zu t),.int .i64 k,.int .i64 a,.int .i64 b] w fun e w'=>e=.returned (.tuple #[])/\Z8 P w w'/\WE t w w'/\Tp w' P t (es++[(k,a,b)]):=by
 rcases hl with rfl|hl
 · refine (Vb P none [] k a b w hP trivial (by simp) hk).mono ?_;rintro e w' ⟨h1,h2,h3,_⟩;exact ⟨h1,h2,h3,trivial⟩
 · exact Vb P t es k a b w hP ht hl hk
theorem addr_add(b off j:Nat):(⟨b,off,none⟩:Addr).add j=⟨b,off+j,none⟩:=by unfold Addr.add;split <;> simp_all
theorem sD(P:Nat->Prop)(t:Option (Nat × Nat))(es:List Ev)(rs:List (Int × Int))(hcl:∀ r∈rs,Pp r)(h1:1<=rs.length)(h2:rs.length<=4096)(A:Option Addr)(c:Nat)(w:World)(hP:∀ k,P k->k<w.heap.size)(hs:U2 w P A (Zt rs))(ht:Tp w P t es)(hl:t=none\/es.length+(YZ (lg rs.length)).length<=1000000):
 Calls prog 155 #[.pointer (Zu t),.slice A rs.length c] w fun e w'=>∃ b,e=.returned (.slice (some ⟨b,0,none⟩) rs.length rs.length)/\Z8 P w w'/\Tp w' P t (es++Y3 (YZ (lg rs.length)))/\¬ P b/\Sl w' w'.heap.size (some ⟨b,0,none⟩) (Zt (XO Zh rs)):=by
 have hL:=yG h2;have hge:=qK h2;have iX:=TG hL;have Vu:=hide (fun w=>IC rs.length h1 h2 w);have yw:=Ed h2;have zoz:=rD hcl;obtain ⟨L,hLe⟩:=eE (lg rs.length);have mU:=hide hLe;rw [<- hLe] at hL hge iX Vu yw hl ⊢;obtain ⟨N,hN⟩:=eE (2 ^ L);have HN:=hide hN;rw [<- hN] at hge iX Vu yw;have hN0:¬ (N:Int)=0:=by omega
 have hmk:=fun w=>Ir N (by omega) w;obtain ⟨tb,htb⟩:=eE w.heap.size;obtain ⟨w0,hw0⟩:=eE (w.alloc (.cells #[.pointer (Zu t)] 51));clear hLe hN;have hz0:w0.heap.size=tb+1:=by rw [hw0,htb];simp
 have T0:Z6 w0 tb 51 #[.pointer (Zu t)]:=by rw [hw0,htb];exact Z6.new _ _ _
 have hb0:=bE hw0;obtain ⟨W1,hW1⟩:∃ W1,(w0.alloc (.cells (madeCells #[.int .u64 0,.int .u64 0] (N*2)) 150)).alloc (.cells #[.slice (some ⟨tb+1,0,none⟩) N N] 89)=W1:=⟨_,rfl⟩;have R1:Z6 W1 (tb+1) 150 (madeCells #[.int .u64 0,.int .u64 0] (N*2)):=by rw [<- hW1,<- hz0];exact (Z6.new _ _ _).alloc _
 have O1:Z6 W1 (tb+1+1) 89 #[.slice (some ⟨tb+1,0,none⟩) N N]:=by
  have h:=Z6.new2 w0 (.cells (madeCells #[.int .u64 0,.int .u64 0] (N*2)) 150) 89 #[.slice (some ⟨tb+1,0,none⟩) N N];rw [hz0,hW1] at h;exact h
 have vJ:Below w0.heap.size w0 W1:=by rw [<- hW1];exact Z7 (bA) _
 have T1:=T0.step vJ;have hz1:W1.heap.size=tb+3:=by rw [<- hW1];simp [hz0]
 have hB1:=Z9 hb0 vJ;have hs1:=(hs.kept (Z8.of_below hB1 hP)).sl (fun k hk=>Nat.lt_of_lt_of_le (hP k hk) hB1.size);obtain ⟨b,off,rfl,hbb,hcs⟩:=hs1.open_ (by have:=YK (fun p:Int × Int=>[Value.int .u64 p.1,.int .u64 p.2]) 2 (fun _=>rfl) rs;unfold Zt;rw [this];omega);have hrl:(Zt rs).length=rs.length*2:=YK (fun p:Int × Int=>[Value.int .u64 p.1,.int .u64 p.2]) 2 (fun _=>rfl) rs;have hmin:Nat.min rs.length N=rs.length:=Nat.min_eq_left hge;have hrun:=Rz (P:=prog) W1 89 89 3 150 2 (tb+1) 0 N N ⟨b,off,none⟩ rs.length c _ 150 (Zt rs) underlying89 (by kernel_rfl) R1 (by rw [hmin,hrl]) (fun j v hv=>by rw [addr_add];exact hcs j v hv) (by rw [size_madeCells,hrl];omega) (wU rs);have iN:=setRow_heap W1 (tb+1) (madeCells #[.int .u64 0,.int .u64 0] (N*2)) ((madeCells #[.int .u64 0,.int .u64 0] (N*2)).toList.take 0++Zt rs++(madeCells #[.int .u64 0,.int .u64 0] (N*2)).toList.drop (0+(Zt rs).length)).toArray 150 _ R1;have NG:Below w.heap.size w (W1.setRow (tb+1) ((madeCells #[.int .u64 0,.int .u64 0] (N*2)).toList.take 0++Zt rs++(madeCells #[.int .u64 0,.int .u64 0] (N*2)).toList.drop (0+(Zt rs).length)).toArray):=below_setRow hB1 (by omega) _;have Ij:∀ k,k≠tb+1->(W1.setRow (tb+1) ((madeCells #[.int .u64 0,.int .u64 0] (N*2)).toList.take 0++Zt rs++(madeCells #[.int .u64 0,.int .u64 0] (N*2)).toList.drop (0+(Zt rs).length)).toArray).heap[k]?=W1.heap[k]?:=fun k hk=>setRow_other W1 (tb+1) k _ hk;rw [kS rs N hge] at hrun iN NG Ij;rw [hmin] at hrun;have zoy:rs++List.replicate (N - rs.length) (0,0)=UM rs:=by unfold UM;rw [<- mU.out,<- HN.out]
 rw [zoy] at hrun iN NG Ij;obtain ⟨W2,hW2⟩:=eE (W1.setRow (tb+1) (QL (UM rs)));rw [<- hW2] at hrun iN NG Ij;have R2:Z6 W2 (tb+1) 150 (QL (UM rs)):=iN;have O2:Z6 W2 (tb+1+1) 89 #[.slice (some ⟨tb+1,0,none⟩) N N]:=(Ij _ (by omega)).trans O1;have T2:Z6 W2 tb 51 #[.pointer (Zu t)]:=(Ij _ (by omega)).trans T1;have hz2:W2.heap.size=tb+3:=by rw [hW2,<- hz1];simp [World.setRow]
 have zl:=hide hrun;have HZ2:=hide hz2;have RN:=hide hcl;have HPC:=hide zoz;have tO:=hide yw;have HS:=hide hs;have HP:=hide hP;have HT:=hide ht;have uo:=hide NG;clear hrun iN Ij hcs R1 O1 T1 vJ hB1 hz1 hmin zoy hbb T0 hb0 hrl hs1 hz2 hcl zoz yw hs hP ht NG;refine (callsIn_wide (n:=6)).1 ?_;refine callsIn_of_wp_marks func155 rfl trivial ?_ rfl;simp only [ntmps155,List.size_toArray,List.length_cons,List.length_nil,Nat.reduceAdd,Nat.reduceSub,Array.replicate_succ,Array.replicate_zero,List.push_toArray,List.append_toArray,List.nil_append,List.cons_append];gi_wp2_with fail;rw [<- hw0,<- htb];have mD:=hide htb;have HZ0:=hide hz0;have HW1:=hide hW1;have HW2:=hide hW2;clear hw0 htb hz0 hW1 hW2;refine ⟨trivial,?_⟩;refine (callsIn_wide.2 (Vu.out _)).mono ?_;rintro e w1 ⟨rfl,rfl⟩;gi_wp2_with fail;rw [HZ0.out,HW1.out,zl.out];clear zl HW1 HW2 hmk;have o2:=O2.q0 rfl;have Mv:=hide (Z8.of_below uo.out HP.out);have HT2:=hide (HT.out.more uo.out);have HPM:=hide (Yg HP.out uo.out);gi_wp2_with fail
 gi_loopw [21] (fun i wr=>∃ k:Nat,k<=N/\i=.int .i64 k/\(Z6 wr tb 51 #[.pointer (Zu t)]/\Z6 wr (tb+1+1) 89 #[.slice (some ⟨tb+1,0,none⟩) N N]/\Z6 wr (tb+1) 150 (QL (UM rs)))/\Z8 P W2 wr/\Tp wr (More P w W2) t es)
  (fun i _=>N - (intOf i).toNat)
 case atStart=>exact ⟨0,Nat.zero_le _,rfl,⟨T2,O2,R2⟩,Z8.refl _ _,HT2.out⟩
 case round =>
  clear T2 O2 R2 o2;obtain ⟨k,hk,rfl,⟨Tr,Or,Rr⟩,hkr,htr⟩:=hrel;have or:=Or.q0 rfl
  by_cases hlt:k<N
  · have Uj:(k:Int)<(N:Int):=(by omega);obtain ⟨r,hr⟩:∃ r,(UM rs)[k]?=some r:=⟨_,List.getElem?_eq_getElem (by rw [tO.out];exact hlt)⟩;have hrc:=HPC.out r (List.mem_of_getElem? hr);have hu:=Fw hrc;have HC:=hide (fun wk=>Qz r.1 r.2 hu.1.1 hu.1.2 hu.2.1 hu.2.2 wk);rw [Bu hrc] at HC;obtain ⟨g0,g1⟩:=Vd hr;have JO:=hide g0;have dG:=hide g1;have c0:=Rr.cell g0;have c1:=Rr.cell g1;obtain ⟨x1,x2⟩:=r;dsimp only at *;have hNP:¬ P (tb+1):=fun h=>by have:=HP.out _ h;have:=mD.out;omega
    have HRR:=hide Rr;have HTR:=hide Tr;have CP:=hide Or;have uD:=hide hkr;have HTT:=hide htr;have Sb:=hide hNP;clear hrc hu hr g0 g1 Rr Tr Or hkr htr hNP;have Wj:prog.follows .mixedOrders=true:=(by kernel_rfl);gi_wp2_with fail;refine bW 8 (S:=fun w'=>Z6 w' (tb+1+1) 89 #[.slice (some ⟨tb+1,0,none⟩) N N]/\Z6 w' (tb+1) 150 (QL (UM rs))) Wj ?_;have hS:Z6 wr.drew (tb+1+1) 89 #[.slice (some ⟨tb+1,0,none⟩) N N]/\Z6 wr.drew (tb+1) 150 (QL (UM rs)):=⟨CP.out.drew,HRR.out.drew⟩;refine' ZU (i:=0) rfl ?Rh hS ?OY
    case Rh =>
     intro w' hSw;obtain ⟨s1,s2⟩:=hSw;have z1:=s1.q0 rfl;have z2:=s2.cell JO.out;have z3:=s2.cell dG.out;go_simp;rfl
    simp only [Act.put,getElem_toArray,getElem_cons_zero,setIfInBounds_toArray,set_cons_zero,set_cons_succ];refine' ZU (i:=1) rfl ?Ri hS ?OZ
    case Ri =>
     intro w' hSw;go_simp;rfl
    simp only [Act.put,ZX];refine' ZU (i:=2) rfl ?OE hS ?LV
    case OE =>
     intro w' hSw;obtain ⟨s1,s2⟩:=hSw;have z1:=s1.q0 rfl;have z2:=s2.cell JO.out;have z3:=s2.cell dG.out;go_simp;rfl
    simp only [Act.put,ZX];refine' ZU (i:=3) rfl ?OG hS ?LW
    case OG =>
     intro w' hSw;go_simp;rfl
    simp only [Act.put,ZX];refine' ZU (i:=4) rfl ?Kz hS ?F9
    case Kz =>
     intro w' hSw;obtain ⟨s1,s2⟩:=hSw;have z1:=s1.q0 rfl;have z2:=s2.cell JO.out;have z3:=s2.cell dG.out;go_simp;rfl
    simp only [Act.put,ZX];refine' ZU (i:=5) rfl ?KA hS ?Ga
    case KA =>
     intro w' hSw;obtain ⟨s1,s2⟩:=hSw;have z1:=s1.q0 rfl;have z2:=s2.cell JO.out;have z3:=s2.cell dG.out;go_simp;rfl
    simp only [Act.put,ZX];refine Yi (i:=6) (by kernel_rfl) rfl ?_;intro K hK;rw [if_pos (by rfl)];go_simp;refine ⟨trivial,?_⟩;refine (callsIn_wide.2 (HC.out _)).mono ?_;rintro e w3 ⟨rfl,hb3⟩;have Ii:Z6 w3 (tb+1+1) 89 #[.slice (some ⟨tb+1,0,none⟩) N N]/\Z6 w3 (tb+1) 150 (QL (UM rs)):=⟨CP.out.drew.step hb3,HRR.out.drew.step hb3⟩;refine hK.out _ _ (fun _=>Ii) ?_;clear hK K
    (try simp only [Act.put,ZX])
    refine' ZU (i:=7) rfl ?qw Ii ?kW
    case qw =>
     intro w' hSw;obtain ⟨s1,s2⟩:=hSw;have z1:=s1.q0 rfl;have z2:=s2.cell JO.out;have z3:=s2.cell dG.out;go_simp;rfl
    simp only [Act.put,ZX];have B3:=Ii.2;have c0:=B3.cell JO.out;have c1:=B3.cell dG.out;have f0:=B3.frozen (k*2);have f1:=B3.frozen (k*2+1);refine Yi (i:=8) (by kernel_rfl) rfl ?_;intro K hK;rw [if_pos (by rfl)];go_simp;refine hK.out _ _ (fun h=>absurd rfl h) ?_;clear hK K;refine WG (by kernel_rfl) ?_ _;refine CU.intro ?_
    have Ad:Z6 ((w3.setCell ⟨tb+1,k*2,none⟩ (.int .u64 x1)).setCell ⟨tb+1,k*2+1,none⟩ (.int .u64 x2)) tb 51 #[.pointer (Zu t)]/\Z6 ((w3.setCell ⟨tb+1,k*2,none⟩ (.int .u64 x1)).setCell ⟨tb+1,k*2+1,none⟩ (.int .u64 x2)) (tb+1+1) 89 #[.slice (some ⟨tb+1,0,none⟩) N N]/\Z6 ((w3.setCell ⟨tb+1,k*2,none⟩ (.int .u64 x1)).setCell ⟨tb+1,k*2+1,none⟩ (.int .u64 x2)) (tb+1) 150 (QL (UM rs)) :=
     ⟨((HTR.out.drew.step hb3).far (p:=⟨tb+1,k*2,none⟩) (by dsimp only;omega) _).far (p:=⟨tb+1,k*2+1,none⟩) (by dsimp only;omega) _,(Ii.1.far (p:=⟨tb+1,k*2,none⟩) (by dsimp only;omega) _).far (p:=⟨tb+1,k*2+1,none⟩) (by dsimp only;omega) _,(Ii.2.same JO.out).same dG.out⟩
    have hk5:Z8 P W2 ((w3.setCell ⟨tb+1,k*2,none⟩ (.int .u64 x1)).setCell ⟨tb+1,k*2+1,none⟩ (.int .u64 x2)) :=
     (uD.out.trans ((Z8.drew _ _).trans (Z8.of_below hb3 fun j hj=>Nat.lt_of_lt_of_le (HP.out j hj) (Mv.out.trans uD.out).size))).trans ((Z8.setCell Sb.out _ _ _).trans (Z8.setCell Sb.out _ _ _))
    have hmem:More P w W2 (tb+1):=.inr ⟨by have:=mD.out;omega,by have:=HZ2.out;omega⟩;have Rf:Tp ((w3.setCell ⟨tb+1,k*2,none⟩ (.int .u64 x1)).setCell ⟨tb+1,k*2+1,none⟩ (.int .u64 x2)) (More P w W2) t es:=((HTT.out.drew.step hb3).set hmem _ _).set hmem _ _;have TT:=hide (And.intro Ad (And.intro hk5 Rf));clear Ad hk5 Rf Ii hS hb3 B3 c0 c1 f0 f1 or;gi_wp2;go_roundw
    case rel=>exact ⟨k+1,by omega,by go_num,TT.out⟩
    case measure=>simp [intOf];omega
  · obtain rfl:N=k:=(by omega);obtain ⟨g,hg⟩:=eE wr.heap.size;have zmi:=hide (fun wk=>D7 (N:Int) wk);have HTR:=hide Tr;have CP:=hide Or;have HRR:=hide Rr;have uD:=hide hkr;have HTT:=hide htr;have HGG:=hide hg;clear Tr Or Rr hkr htr or;gi_wp2_with fail;refine ⟨trivial,?_⟩;refine (callsIn_wide.2 (zmi.out _)).mono ?_;rintro e w3 ⟨rfl,rfl⟩;obtain ⟨W4,oL⟩:∃ W4,wr.alloc (.cells #[.int .i64 (N:Int)] 3)=W4:=⟨_,rfl⟩;rw [<- hg,oL];clear hg;have hb4:Below wr.heap.size wr W4:=(by rw [<- oL];exact bA);have G4:Z6 W4 g 3 #[.int .i64 ((2 ^ L:Nat):Int)]:=(by rw [<- oL,HGG.out,<- HN.out];exact Z6.new _ _ _);have T4:=HTR.out.step hb4;have O4:=CP.out.step hb4;have R4:=HRR.out.step hb4;have hz4:W4.heap.size=g+1:=(by rw [<- oL,HGG.out];simp);have hgt:tb+3<=g:=(by have:=uD.out.size;have:=HZ2.out;have:=HGG.out;omega);have Aa:∀ k,P k->k<tb:=fun k hk=>by have:=HP.out k hk;have:=mD.out;omega
    have LG:∀ k,Also P g k->k<W4.heap.size:=fun k hk=>by
     rcases hk with hk|hk
     · have:=Aa k hk;omega
     · omega
    have hQ:∀ k,Also (More P w W2) g k->k<W4.heap.size:=fun k hk=>by
     rcases hk with hk|hk
     · have:=HPM.out k hk;have:=HZ2.out;omega
     · omega
    have Jz:Tp W4 (Also (More P w W2) g) t es:=(HTT.out.add (R:=Also (More P w W2) g) fun j hj=>by
     rcases hj with hj|hj
     · exact .inl hj
     · exact .inr (by have:=HGG.out;omega)).step hb4
    have hmb:∀ u,t=some u->u.2<W4.heap.size:=Jz.aP;have hM:∀ k,tb<=k->k<tb+3->Also (More P w W2) g k:=fun k h1 h2=>.inl (.inr ⟨by have:=mD.out;omega,by have:=HZ2.out;omega⟩);have l9:=hide (hM tb (by omega) (by omega));have HMR:=hide (hM (tb+1) (by omega) (by omega));have tL:=hide (hM (tb+1+1) (by omega) (by omega));have HMG:Hid (Also (More P w W2) g g):=.inr rfl
    have HPI:Hid (∀ k,Also P g k->Also (More P w W2) g k):=fun k hk=>by
     rcases hk with hk|hk
     · exact .inl (.inl hk)
     · exact .inr hk
    have Od:Hid (¬ Also P g (tb+1)):=fun h=>by
     rcases h with h|h
     · have:=Aa _ h;omega
     · omega
    have HK4:=hide (Mv.out.trans (uD.out.trans (Z8.of_below hb4 fun j hj=>by have:=Aa j hj;have:=HGG.out;omega)));have Lu:=hide LG;have HQ:=hide hQ;have HT4:=hide Jz;have zf:=hide hmb;have HGT:=hide hgt;have HZ4:=hide hz4;have zfx:=hide Aa;have HG4:=hide G4;clear hb4 hz4 hgt Aa LG hQ Jz hmb hM oL zmi G4 uD HTT HTR CP HRR hlt hk;gi_wp2_with fail
    refine wpIn_rangeFunc_ownH rfl (by omega) (gf:=160) (lb:=#[.pointer (some ⟨g,0,none⟩)]) rfl trivial (enters_of func160 (by kernel_rfl) rfl)
     (IB 5 (by omega) g (Also P g) L hL W4 Lu.out (.inr rfl) HG4.out) Z8.trans (fun W l o o' hl _ _ _=>Z8.putObj o' (fun h=>by have:=Lu.out _ h;omega) W) (Below.refl _ _) (fun _=>rfl)
     (fun pre W=>(((Z6 W tb 51 #[.pointer (Zu t)]/\Z6 W (tb+1+1) 89 #[.slice (some ⟨tb+1,0,none⟩) N N])/\Z6 W (tb+1) 150 (QL (xA (UM rs) (TS pre))))/\(Z8 (Also P g) W4 W/\Tp W (Also (More P w W2) g) t (es++Y3 (TS pre)))))
     (fun _ _ _=>False)
     (OwnFrom.and (OwnFrom.and (OwnFrom.and (Own.from (Xh _ _ _) _) (Own.from (Xh _ _ _) _)) (Own.from (Xh _ _ _) _)) (OwnFrom.and (TY (fun k hk=>⟨Lu.out k hk,Lu.out k hk⟩)) (V5 _ (Also (More P w W2) g) t (fun pre:List (xI L)=>es++Y3 (TS pre)) zf.out)))
     (fun _ _ _ _ _ hs _ _=>hs)
     ⟨⟨⟨T4,O4⟩,R4⟩,Z8.refl _ _,by simpa [Y3,TS] using HT4.out⟩
     (fun x a' W=>∃ Bx es',g<Bx/\Tp W (Also (Also (More P w W2) g) Bx) t es'/\Z6 W Bx 174 #[.int .i64 (x.1.1:Int),.int .i64 (x.1.2:Int)]/\a'={ tmps:=#[.pointer (Zu t),.slice (some ⟨b,off,none⟩) rs.length c,.pointer (some ⟨tb,0,none⟩),undef,.slice none 0 0,.int .i64 (N:Int),.pointer (some ⟨tb+1+1,0,none⟩),u7,.pointer (some ⟨Bx,0,none⟩),.slice (some ⟨b,off,none⟩) rs.length c,.int .i64 (rs.length:Int),.int .i64 (N:Int),.int .i64 (N:Int),.bool false,.int .i64 (N:Int),.slice (some ⟨tb+1,0,none⟩) N N,.slice (some ⟨tb+1,0,none⟩) N N,.slice (some ⟨b,off,none⟩) rs.length c,.int .i64 (rs.length:Int),.slice (some ⟨tb+1,0,none⟩) N N,.int .i64 (N:Int),.int .i64 (N:Int),.bool false,u23,u24,u25,u26,u27,u28,u29,u30,u31,u32,.int .i64 (N:Int),.func (.func 160) #[] #[.pointer (some ⟨g,0,none⟩)],.agg #[.int .i64 (x.1.1:Int),.int .i64 (x.1.2:Int)],undef,undef,undef,undef,undef,undef,undef,undef,undef,undef,undef,undef,undef,undef,undef,undef,undef,undef,undef,undef,undef],defers:=[] })
     (fun x a' _ X Y row hs hg hr=>by obtain ⟨Bx,es',h1,hT,h2,h3⟩:=hs;exact ⟨Bx,es',h1,V5 _ _ t (fun _:Unit=>es') zf.out () X Y row hT hg hr,Xh Bx 174 (fun (_:Unit)=>#[.int .i64 (x.1.1:Int),.int .i64 (x.1.2:Int)]) () X Y row h2 hg (fun r e=>(hr r e).2),h3⟩)
     ?assign ?body ?done ?stop
    case assign =>
     rintro l pre x W K ⟨⟨⟨T1,O1⟩,R1⟩,hB1,hT1⟩ hK;have hWz:W4.heap.size<=W.heap.size:=hB1.size;unfold Dn;gi_wp2;have dX:∀ k,Also P g k->k<W.heap.size:=fun k hk=>Nat.lt_of_lt_of_le (Lu.out k hk) hWz;refine hK _ _ ((KeepsOthers.alloc _ _).from _) (Z8.of_below (bA) dX) ⟨⟨⟨T1.alloc _,O1.alloc _⟩,R1.alloc _⟩,hB1.trans (Z8.of_below (bA) dX),hT1.step (bA)⟩ ⟨W.heap.size,es++Y3 (TS pre),by have:=HZ4.out;omega,?_,Z6.new _ _ _,rfl⟩;refine (hT1.add (R:=Also (Also (More P w W2) g) W.heap.size) fun k hk=>?_).step (bA);rcases hk with hk|hk
     · exact .inl hk
     · exact .inr (by omega)
    case body =>
     rintro l pre x a' W hl' _ ⟨⟨⟨T1,O1⟩,R1⟩,hB1,hT1⟩ ⟨Bx,es',hBx,hTx,bX,rfl⟩ hpl;have hszW:W4.heap.size<=W.heap.size:=hB1.size;have iK:=hT1.with hTx
     clear hT1 hTx;have Wj:prog.follows .mixedOrders=true:=(by kernel_rfl);obtain ⟨⟨lo,hi⟩,hin1,hin2,iO⟩:=x;dsimp only at *;have hsl:(xA (UM rs) (TS pre)).length=N:=(by rw [(Le _ _).length_eq];exact tO.out);have zot:lo<N:=(by rw [HN.out];exact hin1);have zon:hi<N:=(by rw [HN.out];exact hin2);obtain ⟨xr,hxr⟩:∃ xr,(xA (UM rs) (TS pre))[lo]?=some xr:=⟨_,List.getElem?_eq_getElem (by rw [hsl];exact zot)⟩;obtain ⟨yr,hyr⟩:∃ yr,(xA (UM rs) (TS pre))[hi]?=some yr:=⟨_,List.getElem?_eq_getElem (by rw [hsl];exact zon)⟩;have hxc:=HPC.out xr ((Le _ _).mem_iff.1 (List.mem_of_getElem? hxr));have fq:=HPC.out yr ((Le _ _).mem_iff.1 (List.mem_of_getElem? hyr));have hle:t=none\/(es++Y3 (TS pre)).length<=1000000:=by
      rcases hl with h|h
      · exact .inl h
      · refine .inr ?_;rw [List.length_append,Y3,List.length_map,TS,List.length_map];omega
     have zhe:(lo:Int)<(N:Int):=(by omega);have zgs:(hi:Int)<(N:Int):=(by omega);have zh:=hide (sF (UM rs) (TS pre) (lo,hi));have HPX:=hide (Ee (TS pre) (lo,hi));have HCU:Hid (TS (pre++[⟨(lo,hi),hin1,hin2,iO⟩])=TS pre++[(lo,hi)]):=JY _ _
     have hQ2:∀ k,Also (Also (More P w W2) g) Bx k->k<W.heap.size:=fun k hk=>by
      rcases hk with hk|hk
      · exact Nat.lt_of_lt_of_le (HQ.out k hk) hszW
      · subst hk;exact bX.lt
     have RU:=hide (Bg (Also (Also (More P w W2) g) Bx) t (es++Y3 (TS pre)) 3 (lo:Int) (hi:Int) W hQ2 iK hle (by unfold Yu;omega))
     have HEX:Hid (∀ wk,Z6 wk (tb+1) 150 (QL (xA (UM rs) (TS pre)))->Calls prog 185 #[.pointer (some ⟨tb+1,lo*2,none⟩),.pointer (some ⟨tb+1,hi*2,none⟩)] wk fun e w'=>e=.returned (.tuple #[])/\Z6 w' (tb+1) 150 (QL (xA (UM rs) (TS pre++[(lo,hi)])))/\wk.grownBy w' (some (tb+1))):=hide fun wk hB=>by
      refine (FD (tb+1) 150 _ (lo*2) (hi*2) xr yr hxc fq wk hB (Vd hxr).1 (Vd hxr).2 (Vd hyr).1 (Vd hyr).2 (by omega)).mono ?_;rintro e w' ⟨rfl,hq⟩;rw [zh.out];exact ⟨rfl,iC hxr hyr iO hq⟩
     have t1:=T1.q0 rfl;have x0:=bX.q0 rfl;have x1:=bX.q1 rfl;have HT1:=hide T1;have gG:=hide O1;have HR1:=hide R1;have Cu:=hide bX;have HB1:=hide hB1;have zik:=hide hBx;have Vu:=hide hszW;clear T1 O1 R1 bX hB1 iK hxr hyr hxc fq hle hQ2 hsl hBx hszW zot zon hpl zh;gi_wp2_with fail;refine ⟨trivial,?_⟩;refine (CallsIn.inRound l (callsIn_wide.2 RU.out)).mono ?_;rintro e wn ⟨rfl,hkk,hmm,htn⟩;have Tn:=HT1.out.kept hkk (.inl l9.out);have On:=gG.out.kept hkk (.inl tL.out);have Rn:=HR1.out.kept hkk (.inl HMR.out);have Xn:=Cu.out.kept hkk (.inr rfl);have HTN:=hide Tn;have mh:=hide Rn;have HKK:=hide hkk;have HMM:=hide hmm;have zjg:=hide htn;clear t1 x0 x1 Tn Rn hkk hmm htn RU;gi_wp2_with fail;refine Xy 1000 (S:=fun w'=>Z6 w' (tb+1+1) 89 #[.slice (some ⟨tb+1,0,none⟩) N N]/\Z6 w' Bx 174 #[.int .i64 (lo:Int),.int .i64 (hi:Int)]) Wj ?_;have hS:Z6 wn.drew (tb+1+1) 89 #[.slice (some ⟨tb+1,0,none⟩) N N]/\Z6 wn.drew Bx 174 #[.int .i64 (lo:Int),.int .i64 (hi:Int)]:=⟨On.drew,Xn.drew⟩;refine' ZU (i:=0) rfl ?zxq hS ?zqx
     case zxq =>
      intro w' hSw;obtain ⟨s1,s2⟩:=hSw;have z1:=s1.q0 rfl;have z2:=s2.q0 rfl;have z3:=s2.q1 rfl;go_simp;rfl
     simp only [Act.put,getElem_toArray,getElem_cons_zero,setIfInBounds_toArray,set_cons_zero,set_cons_succ];refine' ZU (i:=1) rfl ?zyd hS ?zrk
     case zyd =>
      intro w' hSw;go_simp;rfl
     simp only [Act.put,ZX];refine' ZU (i:=2) rfl ?zyn hS ?zru
     case zyn =>
      intro w' hSw;obtain ⟨s1,s2⟩:=hSw;have z1:=s1.q0 rfl;have z2:=s2.q0 rfl;have z3:=s2.q1 rfl;go_simp;rfl
     simp only [Act.put,ZX];refine' ZU (i:=3) rfl ?zyx hS ?zse
     case zyx =>
      intro w' hSw;go_simp;rfl
     simp only [Act.put,ZX];refine' ZU (i:=4) rfl ?zzc hS ?zsj
     case zzc =>
      intro w' hSw;obtain ⟨s1,s2⟩:=hSw;have z1:=s1.q0 rfl;have z2:=s2.q0 rfl;have z3:=s2.q1 rfl;go_simp;rfl
     simp only [Act.put,ZX];refine' ZU (i:=5) rfl ?zzj hS ?zsq
     case zzj =>
      intro w' hSw;go_simp;rfl
     simp only [Act.put,ZX];refine' ZU (i:=6) rfl ?zzq hS ?zsx
     case zzq =>
      intro w' hSw;obtain ⟨s1,s2⟩:=hSw;have z1:=s1.q0 rfl;have z2:=s2.q0 rfl;have z3:=s2.q1 rfl;go_simp;rfl
     simp only [Act.put,ZX];refine' ZU (i:=7) rfl ?zzu hS ?ztb
     case zzu =>
      intro w' hSw;go_simp;rfl
     simp only [Act.put,ZX];refine Yi (i:=8) (by kernel_rfl) rfl ?_;intro K hK;rw [if_pos (by rfl)];go_simp;refine ⟨trivial,?_⟩;refine (CallsIn.inRound l (callsIn_wide.2 (HEX.out _ mh.out.drew))).mono ?_;rintro e w5 ⟨rfl,hR5,hg5⟩;have hS5:Z6 w5 (tb+1+1) 89 #[.slice (some ⟨tb+1,0,none⟩) N N]/\Z6 w5 Bx 174 #[.int .i64 (lo:Int),.int .i64 (hi:Int)]:=⟨On.drew.grown hg5 (by intro h;injection h;omega),Xn.drew.grown hg5 (by intro h;cases h;have:=zik.out;have:=HGT.out;omega)⟩;refine hK.out _ _ (fun _=>hS5) ?_;clear hK K;refine WG (by kernel_rfl) ?_ _;have hT5:Z6 w5 tb 51 #[.pointer (Zu t)]:=HTN.out.drew.grown hg5 (by intro h;injection h;omega);have hk5:Z8 (Also P g) W w5:=(HKK.out.mono fun j hj=>.inl (HPI.out j hj)).trans ((Z8.drew _ _).trans ⟨hg5.os,hg5.tape,hg5.output,hg5.size,fun j hj=>hg5.block j (Nat.lt_of_lt_of_le (Lu.out j hj) (Nat.le_trans Vu.out HKK.out.size)) (fun h=>Od.out (by cases h;exact hj))⟩);have hf5:KeepsFrom W4.heap.size W w5:=(HMM.out.from zf.out).trans ((KeepsFrom.of_below (ZV (Below.refl _ _))).trans ⟨hg5.size,fun j o hj hi ho=>(hg5.block j (Array.getElem?_eq_some_iff.1 hi).1 (fun h=>by cases h;have:=HZ4.out;have:=HGT.out;omega)).trans hi⟩);have Rf:Tp w5 (Also (More P w W2) g) t (es++Y3 (TS pre++[(lo,hi)])):=by
      rw [HPX.out,<- List.append_assoc];exact ((zjg.out.drew.kept hg5 (.inl HMR.out)).mono fun j hj=>.inl hj)
     have Pw:=hide (show KeepsFrom W4.heap.size W w5/\Z8 (Also P g) W w5/\(((Z6 w5 tb 51 #[.pointer (Zu t)]/\Z6 w5 (tb+1+1) 89 #[.slice (some ⟨tb+1,0,none⟩) N N])/\Z6 w5 (tb+1) 150 (QL (xA (UM rs) (TS (pre++[⟨(lo,hi),hin1,hin2,iO⟩])))))/\(Z8 (Also P g) W4 w5/\Tp w5 (Also (More P w W2) g) t (es++Y3 (TS (pre++[⟨(lo,hi),hin1,hin2,iO⟩]))))) from ⟨hf5,hk5,⟨⟨hT5,hS5.1⟩,by rw [HCU.out];exact hR5⟩,HB1.out.trans hk5,by rw [HCU.out];exact Rf⟩);clear hf5 hk5 hT5 hS5 hR5 Rf hS hg5 On Xn;gi_wp2;exact Pw.out
    case done =>
     rintro D zs W hD hzs ⟨⟨⟨T1,O1⟩,R1⟩,hB1,hT1⟩ hK;have o1:=O1.q0 rfl;rw [hzs] at R1 hT1;have hni:=Bc L rs RN.out (by rw [<- HN.out];exact hge);have eG:UM rs=rs++List.replicate (2 ^ L - rs.length) (0,0):=(by unfold UM;rw [<- mU.out]);have hsr:xA (UM rs) (YZ L)=XO Zh rs++List.replicate (2 ^ L - rs.length) (0,0):=(by unfold xA;rw [eG];exact hni);rw [hsr] at R1
     have hSL:Sl W W.heap.size (some ⟨tb+1,0,none⟩) (Zt (XO Zh rs)):=Ui R1 fun j u hu=>by
      unfold Zt at hu;unfold QL Zt;rw [List.flatMap_append,List.getElem?_toArray,List.getElem?_append_left (List.getElem?_eq_some_iff.1 hu).1];exact hu
     have hkk:Z8 P w W:=HK4.out.trans (hB1.mono fun j hj=>.inl hj);have HSL:=hide hSL;have HKK:=hide hkk;have HT1:=hide hT1;clear T1 O1 R1 hB1 hT1 hni eG hsr hSL hkk;have hlen:(rs.length:Int)<=(N:Int):=(by omega);gi_wp2;refine ⟨by simp,.inl ⟨_,_,rfl,run_takeDeferred hK,?_⟩⟩;have hDP:¬ P D:=fun h=>by have:=Lu.out D (.inl h);omega
     have hDt:D≠tb+1:=(by have:=HZ4.out;have:=HGT.out;omega);have zjo:¬ P (tb+1):=fun h=>Od.out (.inl h);refine ⟨_,results_tmp rfl _ _ _,tb+1,rfl,HKK.out.trans (Z8.putObj _ hDP _),?_,zjo,?_⟩
     · exact (HT1.out.mono (R:=P) fun k h=>.inl (.inl h)).putObj (fun u hu=>Nat.lt_of_lt_of_le (zf.out u hu) hD) hK rfl _
     · refine (HSL.out.at_ fun k hk _ x hx hxb=>?_).more (by simp);cases hx;subst hxb;exact World.putObj_heap_other (Ne.symm hDt)
    case stop =>
     rintro D c pre W _ _ h _;exact h.elim
end
end Go.Proofs.YtfljlmleiggmjaaGreatDoor