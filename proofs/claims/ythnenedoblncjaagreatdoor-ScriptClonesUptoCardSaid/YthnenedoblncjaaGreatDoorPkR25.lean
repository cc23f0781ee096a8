/- SortB Exchange RecRow Network BatchMath Sort HeldSk -/
import Derived.Deep.CutBlock
import Derived.LoopIn
import Derived.LoopNIn
import Derived.OwnWalkIn
import Derived.RangeFuncBound
import Derived.RangeFuncCalls
import Derived.RangeFuncLeaves
import Derived.RangeFuncNested
import Derived.Shelf.Abstract
import Derived.Shelf.RegionOpen
import Derived.Shelf.Small.Bits
import Derived.TacticsInMore
import Derived.Test.YthnenedoblncjaaGreatDoorPkR06
import Derived.Test.YthnenedoblncjaaGreatDoorPkR11
import Derived.Test.YthnenedoblncjaaGreatDoorPkR24
set_option maxRecDepth 1000000
set_option maxHeartbeats 8000000
namespace Go.Proofs.YthnenedoblncjaaGreatDoor
open Go.Proofs.Tryz
open List (getElem_toArray getElem_cons_succ getElem_cons_zero setIfInBounds_toArray set_cons_zero set_cons_succ)
section
open Go.RowKit
theorem rA{x y:Int × Int}(hx:LK x)(hy:LK y):(decide (y.1<x.1) || (decide (x.1=y.1) && decide (x.2<y.2)))=decide (Y9 x<Y9 y):=by
 obtain ⟨a,b⟩:=x;obtain ⟨c,d⟩:=y;unfold Y9;rcases hx with ⟨h1,h2,h3⟩|h1 <;> rcases hy with ⟨k1,k2,k3⟩|k1
 · dsimp only at *;subst h1;subst k1;simp;omega
 · cases k1;dsimp only at *;subst h1;simp;omega
 · cases h1;dsimp only at *;subst k1;simp;omega
 · cases h1;cases k1;simp
theorem zzv(a b:Bool):bits BinOp.or IntKind.u64 (ZH a) (ZH b)=ZH (a || b):=by cases a <;> cases b <;> decide
abbrev zQ(w0:World)(s:Nat)(x1 x2 y1 y2:Int)(wk:World):Prop :=
 Below s w0 wk/\(wk.cell? ⟨s,0,none⟩=some (.int .u64 x1)/\wk.cell? ⟨s,1,none⟩=some (.int .u64 x2)/\wk.cell? ⟨s+1,0,none⟩=some (.int .u64 y1)/\wk.cell? ⟨s+1,1,none⟩=some (.int .u64 y2)) /\
  wk.frozen? ⟨s,0,none⟩=false/\wk.frozen? ⟨s,1,none⟩=false/\wk.frozen? ⟨s+1,0,none⟩=false/\wk.frozen? ⟨s+1,1,none⟩=false
theorem zQ.keep{w0:World}{s:Nat}{x1 x2 y1 y2:Int}{wk w':World}(h:zQ w0 s x1 x2 y1 y2 wk)(hb:Below wk.heap.size wk w'):zQ w0 s x1 x2 y1 y2 w':=by
 have on:∀ {b o:Nat} {v:Value},wk.cell? ⟨b,o,none⟩=some v->w'.cell? ⟨b,o,none⟩=some v:=fun h=>(hb.cell (p:=⟨_,_,none⟩) (Zz h)).trans h;obtain ⟨h0,⟨h1,h2,h3,h4⟩,f1,f2,f3,f4⟩:=h;have l1:=Zz h1;have l2:=Zz h3;exact ⟨h0.trans (hb.mono (Nat.le_of_lt l1)),⟨on h1,on h2,on h3,on h4⟩,(hb.frozen (p:=⟨_,_,none⟩) l1).trans f1,(hb.frozen (p:=⟨_,_,none⟩) l1).trans f2,(hb.frozen (p:=⟨_,_,none⟩) l2).trans f3,(hb.frozen (p:=⟨_,_,none⟩) l2).trans f4⟩
theorem TH{w:World}{p:Addr}{v:Value}(h:w.cell? p=some v)(q:Addr):(w.setCell p v).cell? q=w.cell? q:=by
 by_cases hpq:p=q
 · subst hpq;rw [World.cell?_setCell_same _ _ _ h,h]
 · exact World.cell?_setCell_other _ _ _ _ hpq
theorem zQ.set2{w0:World}{s b:Nat}{x1 x2 y1 y2:Int}{wk:World}{u v:Value}(h:zQ w0 s x1 x2 y1 y2 wk)(hb:s<=b)(h1:wk.cell? ⟨b,0,none⟩=some u)(h2:wk.cell? ⟨b,1,none⟩=some v):zQ w0 s x1 x2 y1 y2 ((wk.setCell ⟨b,0,none⟩ u).setCell ⟨b,1,none⟩ v):=by
 have e:∀ q,((wk.setCell ⟨b,0,none⟩ u).setCell ⟨b,1,none⟩ v).cell? q=wk.cell? q:=fun q=>by
  rw [TH (by rw [TH h1];exact h2),TH h1]
 have fz:∀ q,((wk.setCell ⟨b,0,none⟩ u).setCell ⟨b,1,none⟩ v).frozen? q=wk.frozen? q:=fun q=>by rw [World.frozen?_setCell,World.frozen?_setCell]
 obtain ⟨h0,⟨k1,k2,k3,k4⟩,f1,f2,f3,f4⟩:=h;exact ⟨(h0.setCell hb _).setCell hb _,⟨by rw [e];exact k1,by rw [e];exact k2,by rw [e];exact k3,by rw [e];exact k4⟩,(fz _).trans f1,(fz _).trans f2,(fz _).trans f3,(fz _).trans f4⟩
theorem zQ.zdz{w0:World}{s:Nat}{x1 x2 y1 y2:Int}{wk:World}(h:zQ w0 s x1 x2 y1 y2 wk):zQ w0 s x1 x2 y1 y2 ((wk.setCell ⟨s,0,none⟩ (.int .u64 x1)).setCell ⟨s,1,none⟩ (.int .u64 x2)) :=
 h.set2 (Nat.le_refl _) h.2.1.1 h.2.1.2.1
theorem zQ.zea{w0:World}{s:Nat}{x1 x2 y1 y2:Int}{wk:World}(h:zQ w0 s x1 x2 y1 y2 wk):zQ w0 s x1 x2 y1 y2 ((wk.setCell ⟨s+1,0,none⟩ (.int .u64 y1)).setCell ⟨s+1,1,none⟩ (.int .u64 y2)) :=
 h.set2 (Nat.le_succ _) h.2.1.2.2.1 h.2.1.2.2.2
abbrev LeT(w0:World)(s:Nat)(x1 x2 y1 y2:Int)(wk:World):Prop :=
 Below s w0 wk/\wk.cell? ⟨s,0,none⟩=some (.int .u64 x1)/\wk.cell? ⟨s,1,none⟩=some (.int .u64 x2)/\wk.cell? ⟨s+1,0,none⟩=some (.int .u64 y1)/\wk.cell? ⟨s+1,1,none⟩=some (.int .u64 y2)
theorem LeT.keep{w0:World}{s:Nat}{x1 x2 y1 y2:Int}{wk w':World}(h:LeT w0 s x1 x2 y1 y2 wk)(hb:Below wk.heap.size wk w'):LeT w0 s x1 x2 y1 y2 w':=by
 have on:∀ {b o:Nat} {v:Value},wk.cell? ⟨b,o,none⟩=some v->w'.cell? ⟨b,o,none⟩=some v:=fun h=>(hb.cell (p:=⟨_,_,none⟩) (Zz h)).trans h;obtain ⟨h0,h1,h2,h3,h4⟩:=h;exact ⟨h0.trans (hb.mono (Nat.le_of_lt (Zz h1))),on h1,on h2,on h3,on h4⟩
theorem rQ(x y:Int × Int)(hx:LK x)(hy:LK y)(w:World):Calls prog 312 #[.agg #[.int .u64 x.1,.int .u64 x.2],.agg #[.int .u64 y.1,.int .u64 y.2]] w fun e w'=>e=.returned (.int .u64 (ZH (decide (Y9 x<Y9 y))))/\Below w.heap.size w w':=by
 have ux:Ua x.1/\Ua x.2:=by
  rcases hx with ⟨h1,h2,h3⟩|h
  · exact ⟨by rw [h1];exact ⟨by decide,by decide⟩,h2,h3⟩
  · rw [h];exact ⟨⟨by decide,by decide⟩,by decide,by decide⟩
 have uy:Ua y.1/\Ua y.2:=by
  rcases hy with ⟨h1,h2,h3⟩|h
  · exact ⟨by rw [h1];exact ⟨by decide,by decide⟩,h2,h3⟩
  · rw [h];exact ⟨⟨by decide,by decide⟩,by decide,by decide⟩
 have hl:=rA hx hy;have HCX:=hide (fun wk=>QB x.1 x.2 ux.1.1 ux.1.2 ux.2.1 ux.2.2 wk);have HCY:=hide (fun wk=>QB y.1 y.2 uy.1.1 uy.1.2 uy.2.1 uy.2.2 wk);rw [yU hx] at HCX;rw [yU hy] at HCY;have HL1:=hide (fun wk=>G9 y.1 x.1 uy.1.1 uy.1.2 ux.1.1 ux.1.2 wk);have HE:=hide (fun wk=>Gw x.1 y.1 ux.1.1 ux.1.2 uy.1.1 uy.1.2 wk);have HL2:=hide (fun wk=>G9 x.2 y.2 ux.2.1 ux.2.2 uy.2.1 uy.2.2 wk);obtain ⟨K,hK⟩:=eE (decide (Y9 x<Y9 y));rw [<- hK] at hl ⊢;obtain ⟨b1,hb1⟩:=eE (decide (y.1<x.1));obtain ⟨b2,hb2⟩:=eE (decide (x.1=y.1));obtain ⟨b3,hb3⟩:=eE (decide (x.2<y.2));rw [<- hb1,<- hb2,<- hb3] at hl;rw [<- hb1] at HL1;rw [<- hb2] at HE;rw [<- hb3] at HL2;have ha:=Lx b2 b3;have ho:=zzv b1 (b2 && b3);rw [hl] at ho;clear hK hb1 hb2 hb3 hl ux uy hx hy;obtain ⟨x1,x2⟩:=x;obtain ⟨y1,y2⟩:=y;dsimp only at *;obtain ⟨s,hs⟩:=eE w.heap.size;obtain ⟨w0,hw0⟩:=eE ((w.alloc (.cells #[.int .u64 x1,.int .u64 x2] 148)).alloc (.cells #[.int .u64 y1,.int .u64 y2] 148));have hb0:=bF hw0;have X0:Z7 w0 s 148 #[.int .u64 x1,.int .u64 x2]:=by rw [hw0,hs];exact (Z7.new _ _ _).alloc _
 have Y0:Z7 w0 (s+1) 148 #[.int .u64 y1,.int .u64 y2]:=by rw [hw0,hs];exact Z7.new2 _ _ _ _
 have h00:zQ w s x1 x2 y1 y2 w0:=⟨by rw [hs];exact hb0,⟨X0.q0 rfl,X0.q1 rfl,Y0.q0 rfl,Y0.q1 rfl⟩,X0.frozen 0,X0.frozen 1,Y0.frozen 0,Y0.frozen 1⟩;have hd0:=h00.keep (ZV (Below.refl _ _));go_enter func312,ntmps312;go_wp2;rw [<- hw0,<- hs];have HW0:=hide hw0;have HS:=hide hs;clear hw0 hs hb0 X0 Y0
 go_region_held3 (fun w'=>Below s w w'/\(w'.cell? ⟨s,0,none⟩=some (.int .u64 x1)/\w'.cell? ⟨s,1,none⟩=some (.int .u64 x2)/\w'.cell? ⟨s+1,0,none⟩=some (.int .u64 y1)/\w'.cell? ⟨s+1,1,none⟩=some (.int .u64 y2))/\w'.frozen? ⟨s,0,none⟩=false/\w'.frozen? ⟨s,1,none⟩=false/\w'.frozen? ⟨s+1,0,none⟩=false/\w'.frozen? ⟨s+1,1,none⟩=false)
  (first|with_reducible exact hd0|with_reducible exact h00|with_reducible exact zQ.zdz (by assumption)|with_reducible exact zQ.zea (by assumption)|with_reducible exact zQ.keep (by assumption) (by assumption)|with_reducible exact hd0.keep (by assumption))
  (first
    | (go_at_call 276;((with_reducible refine (HCX.out _).mono ?_);rintro e w' ⟨rfl,hb1⟩))
    | (go_at_call 276;((with_reducible refine (HCY.out _).mono ?_);rintro e w' ⟨rfl,hb2⟩)))
 all_goals
  rename_i Uf
  obtain ⟨h5,⟨z0,z1,z2,z3⟩,f0,f1,f2,f3⟩:=Uf;clear hb1 hb2 h00 hd0 HCX HCY f0 f1 f2 f3;obtain ⟨w3,hw3⟩:=eE ((((w'.setCell ⟨s,0,none⟩ (.int .u64 x1)).setCell ⟨s,1,none⟩ (.int .u64 x2)).setCell ⟨s+1,0,none⟩ (.int .u64 y1)).setCell ⟨s+1,1,none⟩ (.int .u64 y2));rw [<- hw3] at h5 z0 z1 z2 z3 ⊢;clear hw3;go_wp2;have h03:LeT w s x1 x2 y1 y2 w3:=⟨h5,z0,z1,z2,z3⟩;have h13:=h03.keep (ZV (Below.refl _ _))
  go_region_held3 (fun w'=>Below s w w'/\w'.cell? ⟨s,0,none⟩=some (.int .u64 x1)/\w'.cell? ⟨s,1,none⟩=some (.int .u64 x2)/\w'.cell? ⟨s+1,0,none⟩=some (.int .u64 y1)/\w'.cell? ⟨s+1,1,none⟩=some (.int .u64 y2))
   (first|with_reducible exact h13|with_reducible exact h03|with_reducible assumption)
   (first
     | (go_at_call 341;((with_reducible refine (HL1.out _).mono ?_);rintro e w' ⟨rfl,rfl⟩))
     | (go_at_call 341;((with_reducible refine (HL2.out _).mono ?_);rintro e w' ⟨rfl,rfl⟩))
     | (go_at_call 260;((with_reducible refine (HE.out _).mono ?_);rintro e w' ⟨rfl,rfl⟩)))
  go_wp2;go_ret;refine ⟨rfl,?_⟩;rw [<- HS.out];exact below_drewN h5 _
end
section
open Go.RowKit
def dK(w:World)(g:Nat)(t:TypeId)(cs:Array Value)(o1 o2:Nat)(u1 u2:Value)(w':World):Prop :=
 ∃ cs':Array Value,Z7 w' g t cs'/\cs'.size=cs.size/\cs'[o1]?=some u1/\cs'[o2]?=some u2/\(∀ j,j≠o1->j≠o2->cs'[j]?=cs[j]?)/\w.grownBy w' (some g)
theorem GN(w:World)(g o:Nat)(u:Value):w.grownBy (w.setCell ⟨g,o,none⟩ u) (some g) :=
 ⟨rfl,rfl,rfl,Nat.le_of_eq (World.size_setCell ..).symm,fun k _ hk=>Below.heap_setCell w ⟨g,o,none⟩ u k (fun e=>hk (by rw [e]))⟩
theorem Bw{a b:World}{row:Option Nat}(h:a.grownBy b row):a.grownBy b.drew row:=⟨h.os,h.tape,h.output,h.size,h.block⟩
theorem Bu{a b:World}{g:Nat}(h:Below a.heap.size a b):a.grownBy b (some g):=⟨h.os,h.tape,h.output,h.size,fun i hi _=>h.block i hi⟩
theorem dK.ab{w:World}{g:Nat}{t:TypeId}{cs:Array Value}{o1 o2:Nat}(h:Z7 w g t cs)(h1:o1<cs.size)(h2:o2<cs.size)(hne:o1≠o2)(u1 u2:Value):dK w g t cs o1 o2 u1 u2 ((w.setCell ⟨g,o1,none⟩ u1).setCell ⟨g,o2,none⟩ u2).drew:=by
 refine ⟨_,((h.set o1 u1).set o2 u2).drew,by simp,?_,?_,fun j n1 n2=>?_,?_⟩
 · rw [Array.getElem?_setIfInBounds,if_neg (Ne.symm hne),Array.getElem?_setIfInBounds,if_pos rfl,if_pos h1]
 · rw [Array.getElem?_setIfInBounds,if_pos rfl,if_pos (by simpa using h2)]
 · rw [Array.getElem?_setIfInBounds,if_neg (Ne.symm n2),Array.getElem?_setIfInBounds,if_neg (Ne.symm n1)]
 · exact Bw ((GN _ _ _ _).trans (GN _ _ _ _))
theorem dK.ba{w:World}{g:Nat}{t:TypeId}{cs:Array Value}{o1 o2:Nat}(h:Z7 w g t cs)(h1:o1<cs.size)(h2:o2<cs.size)(hne:o1≠o2)(u1 u2:Value):dK w g t cs o1 o2 u1 u2 ((w.setCell ⟨g,o2,none⟩ u2).setCell ⟨g,o1,none⟩ u1).drew:=by
 obtain ⟨cs',a1,a2,a3,a4,a5,a6⟩:=dK.ab h h2 h1 (Ne.symm hne) u2 u1;exact ⟨cs',a1,a2,a4,a3,fun j n1 n2=>a5 j n2 n1,a6⟩
def ExQ(w:World)(g:Nat)(t:TypeId)(cs:Array Value)(o1 o2:Nat)(l h:Int × Int)(w':World):Prop :=
 ∃ cs':Array Value,Z7 w' g t cs'/\cs'.size=cs.size/\cs'[o1]?=some (.int .u64 l.1)/\cs'[o1+1]?=some (.int .u64 l.2) /\
   cs'[o2]?=some (.int .u64 h.1)/\cs'[o2+1]?=some (.int .u64 h.2)/\(∀ j,j≠o1->j≠o1+1->j≠o2->j≠o2+1->cs'[j]?=cs[j]?)/\w.grownBy w' (some g)
theorem ExQ.of {w wc wd wx:World} {g:Nat} {t:TypeId} {cs cs1:Array Value} {o1 o2:Nat} {l h:Int × Int} (hne:o1+1<o2\/o2+1<o1) (hb:Below w.heap.size w wc) (hg:wc.grownBy wd (some g)) (hs:cs1.size=cs.size)
 (e1:cs1[o1]?=some (.int .u64 l.1)) (e2:cs1[o2]?=some (.int .u64 h.1)) (e3:∀ j,j≠o1->j≠o2->cs1[j]?=cs[j]?) (hx:dK wd g t cs1 (o1+1) (o2+1) (.int .u64 l.2) (.int .u64 h.2) wx):ExQ w g t cs o1 o2 l h wx:=by
 obtain ⟨cs2,B,s2,a1,a2,a3,hg2⟩:=hx;exact ⟨cs2,B,s2.trans hs,(a3 _ (by omega) (by omega)).trans e1,a1,(a3 _ (by omega) (by omega)).trans e2,a2,fun j n1 n2 n3 n4=>(a3 j n2 n4).trans (e3 j n1 n3),(Bu hb).trans (hg.trans hg2)⟩
section
variable (g:Nat)(t:TypeId)(cs:Array Value)(o1 o2:Nat)(x y:Int × Int)(hx:LK x)(hy:LK y)(w:World)
variable (hb:Z7 w g t cs)(c1:cs[o1]?=some (.int .u64 x.1))(c2:cs[o1+1]?=some (.int .u64 x.2))(c3:cs[o2]?=some (.int .u64 y.1))(c4:cs[o2+1]?=some (.int .u64 y.2))(hne:o1+1<o2\/o2+1<o1)
include hx hy hb c1 c2 c3 c4 hne
theorem Ey:Calls prog 279 #[.pointer (some ⟨g,o1,none⟩),.pointer (some ⟨g,o2,none⟩)] w fun e w'=>e=.returned (.tuple #[])/\ExQ w g t cs o1 o2 (if Y9 y<Y9 x then y else x) (if Y9 y<Y9 x then x else y) w':=by
 have ux:Ua x.1/\Ua x.2:=by
  rcases hx with ⟨h1,h2,h3⟩|h
  · exact ⟨by rw [h1];exact ⟨by decide,by decide⟩,h2,h3⟩
  · rw [h];exact ⟨⟨by decide,by decide⟩,by decide,by decide⟩
 have uy:Ua y.1/\Ua y.2:=by
  rcases hy with ⟨h1,h2,h3⟩|h
  · exact ⟨by rw [h1];exact ⟨by decide,by decide⟩,h2,h3⟩
  · rw [h];exact ⟨⟨by decide,by decide⟩,by decide,by decide⟩
 have HL:=hide (fun wk=>rQ y x hy hx wk);obtain ⟨m,hm⟩:=eE (decide (Y9 y<Y9 x));rw [<- hm] at HL;have eL:(if Y9 y<Y9 x then y else x)=(bif m then y.1 else x.1,bif m then y.2 else x.2):=by by_cases hk:Y9 y<Y9 x <;> simp [hm,hk]
 have eH:(if Y9 y<Y9 x then x else y)=(bif m then x.1 else y.1,bif m then x.2 else y.2):=by by_cases hk:Y9 y<Y9 x <;> simp [hm,hk]
 rw [eL,eH];clear eL eH;have LU:=hide (fun wk=>DT m x.1 y.1 ux.1.1 ux.1.2 uy.1.1 uy.1.2 wk);have HS2:=hide (fun wk=>DT m x.2 y.2 ux.2.1 ux.2.2 uy.2.1 uy.2.2 wk);clear hm ux uy hx hy;obtain ⟨x1,x2⟩:=x;obtain ⟨y1,y2⟩:=y;dsimp only at *;obtain ⟨l1,hl1⟩:=eE (bif m then y1 else x1);obtain ⟨h1,hh1⟩:=eE (bif m then x1 else y1);obtain ⟨l2,hl2⟩:=eE (bif m then y2 else x2);obtain ⟨h2,hh2⟩:=eE (bif m then x2 else y2);rw [<- hl1,<- hh1] at LU ⊢;rw [<- hl2,<- hh2] at HS2 ⊢;clear hl1 hh1 hl2 hh2;have n1:¬ o1=o2:=by omega
 have n2:¬ o1+1=o2+1:=by omega
 have lt1:o1<cs.size:=by have:=(Array.getElem?_eq_some_iff.1 c1).1;exact this
 have lt2:o1+1<cs.size:=by have:=(Array.getElem?_eq_some_iff.1 c2).1;exact this
 have lt3:o2<cs.size:=by have:=(Array.getElem?_eq_some_iff.1 c3).1;exact this
 have lt4:o2+1<cs.size:=by have:=(Array.getElem?_eq_some_iff.1 c4).1;exact this
 have z1:=hb.cell c1;have z2:=hb.cell c2;have z3:=hb.cell c3;have z4:=hb.cell c4;have h00:Below w.heap.size w w/\w.cell? ⟨g,o1,none⟩=some (.int .u64 x1)/\w.cell? ⟨g,o1+1,none⟩=some (.int .u64 x2)/\w.cell? ⟨g,o2,none⟩=some (.int .u64 y1)/\w.cell? ⟨g,o2+1,none⟩=some (.int .u64 y2):=⟨Below.refl _ _,z1,z2,z3,z4⟩;have h10:Below w.heap.size w w.drew/\w.drew.cell? ⟨g,o1,none⟩=some (.int .u64 x1)/\w.drew.cell? ⟨g,o1+1,none⟩=some (.int .u64 x2)/\w.drew.cell? ⟨g,o2,none⟩=some (.int .u64 y1)/\w.drew.cell? ⟨g,o2+1,none⟩=some (.int .u64 y2):=⟨ZV (Below.refl _ _),z1,z2,z3,z4⟩
 have HK:Hid (∀ w',Below w.drew.heap.size w.drew w'->Below w.heap.size w w'/\w'.cell? ⟨g,o1,none⟩=some (.int .u64 x1)/\w'.cell? ⟨g,o1+1,none⟩=some (.int .u64 x2)/\w'.cell? ⟨g,o2,none⟩=some (.int .u64 y1)/\w'.cell? ⟨g,o2+1,none⟩=some (.int .u64 y2)):=hide fun w' k=>by
  have B:=hb.drew.step k;exact ⟨Ye k,B.cell c1,B.cell c2,B.cell c3,B.cell c4⟩
 have bV:=hide hb;have C1:=hide c1;have C2:=hide c2;have C3:=hide c3;have C4:=hide c4;have LT:=hide (And.intro lt1 (And.intro lt2 (And.intro lt3 lt4)));have Oc:=hide hne;clear hb c1 c2 c3 c4 lt1 lt2 lt3 lt4 hne z1 z2 z3 z4;go_enter func279,ntmps279
 go_upto_region 0 with fail
 go_cut [4] from 4 to 11 (fun u wc=>u=.int .u64 (ZH m)/\Below w.heap.size w wc)
 · go_region_held3 (fun w'=>Below w.heap.size w w'/\w'.cell? ⟨g,o1,none⟩=some (.int .u64 x1)/\w'.cell? ⟨g,o1+1,none⟩=some (.int .u64 x2)/\w'.cell? ⟨g,o2,none⟩=some (.int .u64 y1)/\w'.cell? ⟨g,o2+1,none⟩=some (.int .u64 y2))
    (first|with_reducible exact h10|with_reducible exact h00|with_reducible assumption|exact HK.out _ (by assumption))
    (first|(go_at_call 312;((with_reducible refine (HL.out _).mono ?_);rintro e w' ⟨rfl,hb1⟩)))
   all_goals
    go_wp2_with fail
    go_meet
    exact ⟨rfl,Ye hb1⟩
 · obtain ⟨rfl,hbc⟩:=hcut;have B1:=bV.out.step hbc;obtain ⟨lt1,lt2,lt3,lt4⟩:=LT.out;have z1:=B1.cell C1.out;have z3:=B1.cell C3.out;have f1:=B1.frozen o1;have f3:=B1.frozen o2;have HB1:=hide B1;have HBC:=hide hbc;clear B1 hbc h00 h10 lt1 lt2 lt3 lt4
   go_upto_region 1 with fail
   go_cut [12] from 12 to 30 (fun _ wd=>dK wc g t cs o1 o2 (.int .u64 l1) (.int .u64 h1) wd)
   · go_region_with (first|(go_at_call 313;refine (LU.out _).mono ?_;rintro e w1 ⟨rfl,rfl⟩))
     all_goals
      go_wp2_with fail
      go_meet
      first
       | exact dK.ab HB1.out LT.out.1 LT.out.2.2.1 n1 _ _
       | exact dK.ba HB1.out LT.out.1 LT.out.2.2.1 n1 _ _
   · obtain ⟨cs1,B2,hs1,e1,e2,e3,hg1⟩:=hcut;have k2:cs1[o1+1]?=some (.int .u64 x2):=(e3 _ (by omega) (by have:=Oc.out;omega)).trans C2.out;have k4:cs1[o2+1]?=some (.int .u64 y2):=(e3 _ (by have:=Oc.out;omega) (by omega)).trans C4.out;have z2:=B2.cell k2;have z4:=B2.cell k4;have f2:=B2.frozen (o1+1);have f4:=B2.frozen (o2+1);have HB2:=hide B2;have E1:=hide e1;have E2:=hide e2;have E3:=hide e3;have HG:=hide hg1;have HS:=hide hs1;clear B2 e1 e2 e3 hg1 hs1 k2 k4 z1 z3 f1 f3;go_wp2_with fail
     go_region_with (first|(go_at_call 313;refine (HS2.out _).mono ?_;rintro e w1 ⟨rfl,rfl⟩))
     all_goals
      go_wp2;go_end0;refine ⟨rfl,?_⟩
      first
       | exact ExQ.of Oc.out HBC.out HG.out HS.out E1.out E2.out E3.out (dK.ab HB2.out (by rw [HS.out];exact LT.out.2.1) (by rw [HS.out];exact LT.out.2.2.2) n2 _ _)
       | exact ExQ.of Oc.out HBC.out HG.out HS.out E1.out E2.out E3.out (dK.ba HB2.out (by rw [HS.out];exact LT.out.2.1) (by rw [HS.out];exact LT.out.2.2.2) n2 _ _)
end
end
section
open Go.RowKit
def QS(l:List (Int × Int)):Array Value:=(Zb l).toArray
theorem OQ(l:List (Int × Int)):(QS l).size=l.length*2:=by
 unfold QS;rw [List.size_toArray];exact Y5 (fun p:Int × Int=>[Value.int .u64 p.1,.int .u64 p.2]) 2 (fun _=>rfl) l
theorem VY{l:List (Int × Int)}{k:Nat}{r:Int × Int}(h:l[k]?=some r):(QS l)[k*2]?=some (.int .u64 r.1)/\(QS l)[k*2+1]?=some (.int .u64 r.2):=by
 have h0:=flat_get (fun p:Int × Int=>[Value.int .u64 p.1,.int .u64 p.2]) 2 (fun _=>rfl) l k r h;have e0:=h0 0 (by omega);have e1:=h0 1 (by omega);rw [Nat.add_zero] at e0;unfold QS;rw [List.getElem?_toArray,List.getElem?_toArray];exact ⟨e0,e1⟩
theorem FE{cs:Array Value}{l:List (Int × Int)}(hs:cs.size=l.length*2)(h:∀ k r,l[k]?=some r->cs[k*2]?=some (.int .u64 r.1)/\cs[k*2+1]?=some (.int .u64 r.2)):cs=QS l:=by
 refine Array.ext_getElem? fun i=>?_
 by_cases hi:i<l.length*2
 · have hk:i / 2<l.length:=(by omega);have h1:=h (i / 2) l[i / 2] (List.getElem?_eq_getElem hk);have h2:=VY (List.getElem?_eq_getElem hk);rcases Nat.mod_two_eq_zero_or_one i with hm|hm
   · have e:i=i / 2*2:=(by omega);rw [e,h1.1,h2.1]
   · have e:i=i / 2*2+1:=(by omega);rw [e,h1.2,h2.2]
 · rw [Array.getElem?_eq_none (by omega),Array.getElem?_eq_none (by rw [OQ];omega)]
theorem zxl {w w':World} {g lo hi:Nat} {t:TypeId} {l:List (Int × Int)} {x y:Int × Int} (hx:l[lo]?=some x) (hy:l[hi]?=some y) (hne:lo≠hi)
 (h:ExQ w g t (QS l) (lo*2) (hi*2) (if Y9 y<Y9 x then y else x) (if Y9 y<Y9 x then x else y) w'):Z7 w' g t (QS (Pz Y9 l (lo,hi)))/\w.grownBy w' (some g):=by
 obtain ⟨cs,B,s1,a1,a2,a3,a4,a5,hg⟩:=h;have hlo:lo<l.length:=(List.getElem?_eq_some_iff.1 hx).1;have hhi:hi<l.length:=(List.getElem?_eq_some_iff.1 hy).1;refine ⟨?_,hg⟩;have e:cs=QS (Pz Y9 l (lo,hi)):=by
  refine FE (by rw [s1,OQ,Mw]) fun k r hk=>?_;unfold Pz at hk;dsimp only at hk;rw [hx,hy] at hk;dsimp only at hk
  by_cases hlt:Y9 y<Y9 x
  · rw [if_pos hlt] at hk a1 a2 a3 a4
    by_cases k1:k=hi
    · subst k1;rw [List.getElem?_set_self (by rw [List.length_set];exact hhi)] at hk;cases hk;exact ⟨a3,a4⟩
    · rw [List.getElem?_set_ne (Ne.symm k1)] at hk
      by_cases k2:k=lo
      · subst k2;rw [List.getElem?_set_self hlo] at hk;cases hk;exact ⟨a1,a2⟩
      · rw [List.getElem?_set_ne (Ne.symm k2)] at hk;have h2:=VY hk;exact ⟨(a5 _ (by omega) (by omega) (by omega) (by omega)).trans h2.1,(a5 _ (by omega) (by omega) (by omega) (by omega)).trans h2.2⟩
  · rw [if_neg hlt] at hk a1 a2 a3 a4
    by_cases k1:k=hi
    · subst k1;rw [hy] at hk;cases hk;exact ⟨a3,a4⟩
    · by_cases k2:k=lo
      · subst k2;rw [hx] at hk;cases hk;exact ⟨a1,a2⟩
      · have h2:=VY hk;exact ⟨(a5 _ (by omega) (by omega) (by omega) (by omega)).trans h2.1,(a5 _ (by omega) (by omega) (by omega) (by omega)).trans h2.2⟩
 rw [<- e];exact B
theorem aN(l:List (Int × Int))(N:Nat)(h:l.length<=N):
 ((madeCells #[.int .u64 0,.int .u64 0] (N*2)).toList.take 0++Zb l++(madeCells #[.int .u64 0,.int .u64 0] (N*2)).toList.drop (0+(Zb l).length)).toArray=QS (l++List.replicate (N - l.length) (0,0)):=by
 have hl:(Zb l).length=l.length*2:=Y5 (fun p:Int × Int=>[Value.int .u64 p.1,.int .u64 p.2]) 2 (fun _=>rfl) l
 have hz:∀ i,i<N*2->(madeCells #[.int .u64 0,.int .u64 0] (N*2))[i]?=some (.int .u64 0):=fun i hi=>by
  have:i % 2=0\/i % 2=1:=by omega
  unfold madeCells;rw [Array.getElem?_map,Array.getElem?_range];rw [if_pos hi];rcases this with h|h <;> simp [h]
 refine FE (by simp [size_madeCells,hl];omega) fun k r hk=>?_;rw [List.take_zero,List.nil_append,Nat.zero_add,List.getElem?_toArray,List.getElem?_toArray]
 by_cases hkl:k<l.length
 · rw [List.getElem?_append_left hkl] at hk;have h0:=VY hk;unfold QS at h0;rw [List.getElem?_toArray,List.getElem?_toArray] at h0;rw [List.getElem?_append_left (by omega),List.getElem?_append_left (by omega)];exact h0
 · rw [List.getElem?_append_right (by omega)] at hk;have hk2:=List.getElem?_eq_some_iff.1 hk;obtain ⟨hk3,hk4⟩:=hk2;rw [List.length_replicate] at hk3;rw [List.getElem_replicate] at hk4;subst hk4;rw [List.getElem?_append_right (by omega),List.getElem?_append_right (by omega),List.getElem?_drop,List.getElem?_drop,Array.getElem?_toList,Array.getElem?_toList];exact ⟨hz _ (by omega),hz _ (by omega)⟩
theorem Z7.same{w:World}{g:Nat}{t:TypeId}{cs:Array Value}(h:Z7 w g t cs){i:Nat}{u:Value}(hi:cs[i]?=some u):Z7 (w.setCell ⟨g,i,none⟩ u) g t cs:=by
 have h1:=h.set i u;have e:cs.setIfInBounds i u=cs:=by
  refine Array.ext_getElem? fun j=>?_;rw [Array.getElem?_setIfInBounds]
  by_cases hj:i=j
  · subst hj;rw [if_pos rfl,if_pos (Array.getElem?_eq_some_iff.1 hi).1,hi]
  · rw [if_neg hj]
 rw [e] at h1;exact h1
theorem ru(l:List (Int × Int)):∀ v∈Zb l,v.oneCell'=true:=by
 intro v hv;obtain ⟨r,_,hr⟩:=List.mem_flatMap.1 hv;simp at hr;rcases hr with rfl|rfl <;> rfl
end
section
open Go.RowKit Go.Shelf
attribute [local go_sem] Oper.semAt_some
theorem bR(n:Nat):n ^^^ 1=if n % 2=0 then n+1 else n - 1:=by
 have h1:(n ^^^ 1) / 2=n / 2:=by rw [Nat.xor_div_two];simp
 have h2:(n ^^^ 1) % 2=(n+1) % 2:=by
  have:=@Nat.xor_mod_two_eq_one n 1;omega
 have h3:=Nat.div_add_mod (n ^^^ 1) 2;have h4:=Nat.div_add_mod n 2;split <;> omega
theorem bS(i a:Nat):i ^^^ 2 ^ a=if i / 2 ^ a % 2=0 then i+2 ^ a else i - 2 ^ a:=by
 have h0:=Nat.two_pow_pos a;have h1:(i ^^^ 2 ^ a) / 2 ^ a=i / 2 ^ a ^^^ 1:=by
  rw [Nat.xor_div_two_pow,Nat.div_self h0]
 have h2:(i ^^^ 2 ^ a) % 2 ^ a=i % 2 ^ a:=by
  rw [Nat.xor_mod_two_pow,Nat.mod_self];simp
 have h3:=Nat.div_add_mod (i ^^^ 2 ^ a) (2 ^ a);have h4:=Nat.div_add_mod i (2 ^ a);rw [h1,h2,bR] at h3;generalize i / 2 ^ a=q at h3 h4 ⊢
 by_cases hq:q % 2=0
 · rw [if_pos hq] at h3 ⊢;rw [Nat.mul_add] at h3;omega
 · rw [if_neg hq] at h3 ⊢;obtain ⟨p,rfl⟩:∃ p,q=p+1:=⟨q - 1,by omega⟩;rw [Nat.add_sub_cancel] at h3;rw [Nat.mul_add] at h4;omega
theorem zww(i s:Nat):(i &&& 2 ^ s=0) ↔ i / 2 ^ s % 2=0:=by
 have e:i.testBit s=decide (i / 2 ^ s % 2=1):=Nat.testBit_eq_decide_div_mod_eq ..;constructor
 · intro h;have h1:(i &&& 2 ^ s).testBit s=false:=(by rw [h];exact Nat.zero_testBit s);rw [Nat.testBit_and,Nat.testBit_two_pow_self,Bool.and_true,e] at h1;have:=of_decide_eq_false h1;omega
 · intro h;refine Nat.eq_of_testBit_eq fun t=>?_;rw [Nat.testBit_and,Nat.testBit_two_pow,Nat.zero_testBit]
   by_cases hs:s=t
   · subst hs;rw [e,decide_eq_false (by omega)];rfl
   · rw [decide_eq_false hs,Bool.and_false]
theorem MG(a b:Nat)(ha:a<9223372036854775808)(hb:b<9223372036854775808):bits .and .i64 (a:Int) (b:Int)=((a &&& b:Nat):Int):=by
 have hx:a &&& b<2 ^ 63:=Nat.and_lt_two_pow _ (by omega);show IntKind.i64.wrap ((BitVec.ofInt 64 (a:Int) &&& BitVec.ofInt 64 (b:Int)).toNat:Int)=_;rw [BitVec.toNat_and,ofInt_u64 a (by omega),ofInt_u64 b (by omega),IntKind.wrap_i64];omega
theorem Cg(a b:Nat)(ha:a<9223372036854775808)(hb:b<9223372036854775808):bits .xor .i64 (a:Int) (b:Int)=((a ^^^ b:Nat):Int):=by
 have hx:a ^^^ b<2 ^ 63:=Nat.xor_lt_two_pow (by omega) (by omega);show IntKind.i64.wrap ((BitVec.ofInt 64 (a:Int) ^^^ BitVec.ofInt 64 (b:Int)).toNat:Int)=_;rw [BitVec.toNat_xor,ofInt_u64 a (by omega),ofInt_u64 b (by omega),IntKind.wrap_i64];omega
theorem OO{m:Nat}(h:m<=12):2 ^ m<=4096:=Nat.pow_le_pow_right (by omega) h
theorem ah(m:Nat)(hm:m<=12)(w:World):Calls prog 311 #[.int .i64 ((2 ^ m:Nat):Int)] w fun e w'=>e=.returned (.bool true)/\w=w':=by
 have h1:=Nat.two_pow_pos m;have h2:=OO hm;obtain ⟨n,hn⟩:=eE (2 ^ m);have h3:bits .and .i64 (n:Int) ((n:Int) - 1)=0:=by
  have e:((n:Int) - 1)=((n - 1:Nat):Int):=by omega
  rw [e,MG _ _ (by omega) (by omega),hn,Nat.and_two_pow_sub_one_eq_mod,Nat.mod_self];rfl
 rw [<- hn] at h1 h2 ⊢;have g1:(1:Int)<=(n:Int):=by omega
 have g2:(n:Int)<=4096:=by omega
 clear hn;go_enter func311,ntmps311;go_wp2;go_ret;exact ⟨by simp,rfl⟩
abbrev sJ(m:Nat):={ c:Nat × Nat // InB (2 ^ m) c }
def AX{m:Nat}(c:sJ m):Array Value:=#[.agg #[.int .i64 (c.1.1:Int),.int .i64 (c.1.2:Int)]]
def Ub{m:Nat}(l:List (sJ m)):List (Nat × Nat):=l.map (·.1)
theorem JG{m:Nat}(l:List (sJ m))(c:sJ m):Ub (l++[c])=Ub l++[c.1]:=by simp [Ub]
theorem zdx(b:Nat):(2 ^ (b+1)) / 2=2 ^ b:=by rw [Nat.pow_succ];omega
theorem zzw (n:Nat) (hn1:1<=n) (l Bv:Nat) (PE:Nat->Prop) (m:Nat) (hm:m<=12) (J Jx:List (sJ m)->World->Prop) (W:World)
 (hJ:AbidesFrom W.heap.size J) (Lp:∀ k,PE k->k<W.heap.size) (hPB:PE Bv)
 (hY:∀ pre x W1,J pre W1->pre.length<(YK m).length->YieldAt Fence.wide (n - 1) prog l (AX x) W1 fun e W' =>
   (e=.returned (.bool true)/\J (pre++[x]) W'/\Z9 PE W1 W')\/(e=.returned (.bool false)/\Jx (pre++[x]) W'))
 (xq:Z7 W Bv 3 #[.int .i64 ((2 ^ m:Nat):Int)]) (h0:J [] W) :
 CallsIn Fence.wide n prog 310 #[.func (.yield l) #[] #[],.pointer (some ⟨Bv,0,none⟩)] W fun e W'=>(∃ v,e=.returned v) /\
  ((∃ ys,Ub ys=YK m/\J ys W')\/(∃ pre,Ub pre <+: YK m/\Jx pre W')):=by
 have hp0:=Nat.two_pow_pos m;have zxx:=OO hm;have HIS:=hide (fun w=>ah m hm w);obtain ⟨N,hN⟩:=eE (2 ^ m);have HN:=hide hN;rw [<- hN] at hp0 zxx HIS xq;have cv:=xq.q0 rfl;have HY:=hide hY;have HJ:=hide hJ;clear hY hJ hN;refine callsIn_of_wp func310 rfl trivial ?_ rfl;simp only [ntmps310,List.size_toArray,List.length_cons,List.length_nil,Nat.reduceAdd,Nat.reduceSub,Array.replicate_succ,Array.replicate_zero,List.push_toArray,List.append_toArray,List.nil_append,List.cons_append];refine Vt ?_;gi_wp2_with fail;refine ⟨trivial,?_⟩;refine (callsIn_wide.2 (HIS.out _)).mono ?_;rintro e w1 ⟨rfl,rfl⟩;gi_wp2_with fail;refine wpIn_label ?_;gi_wp2_with fail
 gi_loopw [3] (fun k wr=>∃ (s:Nat) (pre:List (sJ m)),s<=m/\k=.int .i64 ((2 ^ (s+1):Nat):Int)/\Hid (Ub pre++rounds N s (m - s)=YK m)/\J pre wr/\Z9 PE W wr)
  (fun k _=>8193 - (intOf k).toNat)
 case atStart=>exact ⟨0,[],Nat.zero_le _,by simp,hide (by rw [HN.out];rfl),h0,Z9.refl _ _⟩
 case round =>
  obtain ⟨s,pre,hs,rfl,hpre,hJs,hkp⟩:=hrel;have cvr:wr.cell? ⟨Bv,0,none⟩=some (.int .i64 (N:Int)):=(xq.kept hkp hPB).q0 rfl
  by_cases hsm:s<m
  · have hk1:2 ^ (s+1)<=N:=(by rw [HN.out];exact Nat.pow_le_pow_right (by omega) hsm);have hr:Hid (rounds N s (m - s)=merges N (2 ^ (s+1)) (s+1)++rounds N (s+1) (m - (s+1))):=by
     obtain ⟨r,hr⟩:∃ r,m - s=r+1:=⟨m - s - 1,by omega⟩;have e:m - (s+1)=r:=(by omega);rw [hr,e];exact rfl
    have hq2:(((2 ^ (s+1):Nat):Int)) / 2=((2 ^ (s+1) / 2:Nat):Int):=(by omega);obtain ⟨K,hK⟩:=eE (2 ^ (s+1));obtain ⟨j0,hj0⟩:=eE (2 ^ (s+1) / 2);have HK:=hide hK;have HJ0:=hide hj0;rw [<- hj0,<- hK] at hq2;rw [<- hK] at hk1 hr ⊢;clear hK hj0;have hki:(K:Int)<=(N:Int):=(by omega);have hK0:0<K:=(by rw [HK.out];exact Nat.two_pow_pos _);gi_wp2_with fail
    gi_loopw [4] (fun j wm=>∃ (b jv:Nat) (kJ:List (sJ m)),b<=s+1/\j=.int .i64 (jv:Int)/\Hid (jv=2 ^ b / 2)/\Hid (Ub kJ++(merges N K b++rounds N (s+1) (m - (s+1)))=YK m)/\J kJ wm/\Z9 PE W wm)
     (fun j _=>(intOf j).toNat)
    case atStart=>exact ⟨s+1,j0,pre,Nat.le_refl _,rfl,HJ0,hide (by rw [<- hr.out];exact hpre.out),hJs,hkp⟩
    case round =>
     clear hJs hkp hpre cvr hq2 HJ0 hr;obtain ⟨b,jv,kJ,hb,rfl,hjv,iW,hJ2,Nu⟩:=hrel;have cv2:wr.cell? ⟨Bv,0,none⟩=some (.int .i64 (N:Int)):=(xq.kept Nu hPB).q0 rfl;cases b with
     | zero =>
       have hz:jv=0:=hjv.out;subst hz;clear hjv;have hw:IntKind.i64.wrap ((K:Int)*2)=((K*2:Nat):Int):=(by rw [IntKind.wrap_i64];omega);gi_wp2_with fail;go_roundw
       case rel =>
        refine ⟨s+1,kJ,hsm,?_,iW,hJ2,Nu⟩;rw [HK.out,Nat.pow_succ 2 (s+1)];simp
       case measure=>simp [intOf];omega
     | succ b =>
       have hjp:jv=2 ^ b:=(by rw [hjv.out];exact zdx b);have hj1:0<jv:=(by rw [hjp];exact Nat.two_pow_pos b);have hjN:jv<=N:=(by rw [hjp,HN.out];exact Nat.pow_le_pow_right (by omega) (by omega));have hji:(0:Int)<(jv:Int):=(by omega);have HJP:=hide hjp;clear hjp hjv;gi_wp2_with fail
       gi_loopw [22] (fun i wi=>∃ (x:Nat) (U6:List (sJ m)),x<=N/\i=.int .i64 (x:Int)/\Hid (Ub U6++(((List.range N).drop x).filterMap (Yh K jv)++(merges N K b++rounds N (s+1) (m - (s+1))))=YK m)/\J U6 wi/\Z9 PE W wi)
        (fun i _=>N - (intOf i).toNat)
       case atStart=>exact ⟨0,kJ,Nat.zero_le _,rfl,hide (by rw [<- iW.out,List.drop_zero,merges,<- HJP.out,List.append_assoc (DU N K jv)];rfl),hJ2,Nu⟩
       case round =>
        clear hJ2 Nu iW cv2;obtain ⟨x,U6,hx,rfl,TJ,hJ3,hkp3⟩:=hrel
        by_cases hxN:x<N
        · have hxi:(x:Int)<(N:Int):=(by omega);have hxo:bits BinOp.xor IntKind.i64 (x:Int) (jv:Int)=((x ^^^ jv:Nat):Int):=Cg _ _ (by omega) (by omega);have hxa:bits BinOp.and IntKind.i64 (x:Int) (K:Int)=((x &&& K:Nat):Int):=MG _ _ (by omega) (by omega);have hxp:=bS x b;rw [<- HJP.out] at hxp;have hap:=zww x (s+1);rw [<- HK.out] at hap;have hdr:(List.range N).drop x=x::(List.range N).drop (x+1):=by
           rw [List.drop_eq_getElem_cons (by simpa using hxN)];simp
          rw [hdr] at TJ
          by_cases hbit:x / jv % 2=0
          · rw [if_pos hbit] at hxp;obtain ⟨y,hy⟩:=eE (x ^^^ jv);rw [<- hy] at hxo hxp;have hyx:¬ (y:Int)<(x:Int):=(by omega);clear hy
            by_cases hkb:x / K % 2=0
            · have hx0:x &&& K=0:=hap.2 hkb;rw [hx0] at hxa;have e0:Yh K jv x=some (x,y):=(by unfold Yh;rw [if_neg (by omega),if_neg (by omega),hxp]);have hin:(x,y)∈YK m:=(by rw [<- TJ.out,List.filterMap_cons_some e0];simp);have hlen:U6.length<(YK m).length:=by
               have:=congrArg List.length TJ.out;rw [List.filterMap_cons_some e0] at this;simp [Ub] at this;omega
              obtain ⟨wa,hwa⟩:=eE (wr.alloc (.cells #[.int .i64 (x:Int),.int .i64 (y:Int)] 326));have hJa:J U6 wa:=(by rw [hwa];exact HJ.out _ _ _ none hJ3 (World.grownBy_alloc wr _ none) (fun r e=>by cases e));have hKa:Z9 PE W wa:=(by rw [hwa];exact hkp3.trans (Z9.of_below (bA) (fun k hk=>Nat.lt_of_lt_of_le (Lp k hk) hkp3.size)));obtain ⟨fn,tmps,assign,body,hyl,hR⟩:=HY.out U6 ⟨(x,y),Xt hin⟩ wa hJa hlen;unfold AX at hyl;dsimp only at hyl
              have hR2:=hide (hR.mono (R':=fun e W'=>∃ r,e=.returned (.bool r)/\(r=true->J (U6++[⟨(x,y),Xt hin⟩]) W'/\Z9 PE W W')/\(r=false->Jx (U6++[⟨(x,y),Xt hin⟩]) W')) (by
               rintro e W' (⟨rfl,h1,h2⟩|⟨rfl,h1⟩)
               · exact ⟨true,rfl,fun _=>⟨h1,hKa.trans h2⟩,fun h=>by cases h⟩
               · exact ⟨false,rfl,(fun h=>by cases h),fun _=>h1⟩))
              have eu:Hid (Ub (U6++[⟨(x,y),Xt hin⟩])++(((List.range N).drop (x+1)).filterMap (Yh K jv)++(merges N K b++rounds N (s+1) (m - (s+1))))=YK m):=hide (by rw [JG,<- TJ.out,List.filterMap_cons_some e0];simp);have sS:Hid (Ub (U6++[⟨(x,y),Xt hin⟩]) <+: YK m):=hide ⟨_,eu.out⟩;generalize U6++[⟨(x,y),Xt hin⟩]=kK at eu sS hR2;have HXP:=hide hxp;clear hR hJa hKa hlen hin hdr TJ hJ3 hkp3 hxp hap hkb hbit e0;gi_wp2_with fail;rw [<- hwa];clear hwa;rw [hyl];refine ⟨fun _=>hn1,?_⟩;refine hR2.out.mono ?_;rintro e W3 ⟨r,rfl,hr1,hr2⟩;have HR1:=hide hr1;have HR2:=hide hr2;clear hr1 hr2 hyl hR2;cases r with
              | false =>
                gi_wp2;unfold Exit.noGoto;dsimp only;go_end0;exact ⟨⟨_,rfl⟩,.inr ⟨kK,sS.out,HR2.out (by trivial)⟩⟩
              | true =>
                gi_wp2;go_roundw
                case rel=>exact ⟨x+1,kK,by omega,by go_num,eu,HR1.out (by trivial)⟩
                case measure=>simp [intOf];omega
            · have hxn:¬ x &&& K=0:=fun h=>hkb (hap.1 h);obtain ⟨xk,hxk⟩:=eE (x &&& K);rw [<- hxk] at hxa hxn;have zaa:¬ (xk:Int)=0:=(by omega);clear hxk hxn;have e0:Yh K jv x=some (y,x):=(by unfold Yh;rw [if_neg (by omega),if_pos (by omega),hxp]);have hin:(y,x)∈YK m:=(by rw [<- TJ.out,List.filterMap_cons_some e0];simp);have hlen:U6.length<(YK m).length:=by
               have:=congrArg List.length TJ.out;rw [List.filterMap_cons_some e0] at this;simp [Ub] at this;omega
              obtain ⟨wa,hwa⟩:=eE (wr.alloc (.cells #[.int .i64 (y:Int),.int .i64 (x:Int)] 326));have hJa:J U6 wa:=(by rw [hwa];exact HJ.out _ _ _ none hJ3 (World.grownBy_alloc wr _ none) (fun r e=>by cases e));have hKa:Z9 PE W wa:=(by rw [hwa];exact hkp3.trans (Z9.of_below (bA) (fun k hk=>Nat.lt_of_lt_of_le (Lp k hk) hkp3.size)));obtain ⟨fn,tmps,assign,body,hyl,hR⟩:=HY.out U6 ⟨(y,x),Xt hin⟩ wa hJa hlen;unfold AX at hyl;dsimp only at hyl
              have hR2:=hide (hR.mono (R':=fun e W'=>∃ r,e=.returned (.bool r)/\(r=true->J (U6++[⟨(y,x),Xt hin⟩]) W'/\Z9 PE W W')/\(r=false->Jx (U6++[⟨(y,x),Xt hin⟩]) W')) (by
               rintro e W' (⟨rfl,h1,h2⟩|⟨rfl,h1⟩)
               · exact ⟨true,rfl,fun _=>⟨h1,hKa.trans h2⟩,fun h=>by cases h⟩
               · exact ⟨false,rfl,(fun h=>by cases h),fun _=>h1⟩))
              have eu:Hid (Ub (U6++[⟨(y,x),Xt hin⟩])++(((List.range N).drop (x+1)).filterMap (Yh K jv)++(merges N K b++rounds N (s+1) (m - (s+1))))=YK m):=hide (by rw [JG,<- TJ.out,List.filterMap_cons_some e0];simp);have sS:Hid (Ub (U6++[⟨(y,x),Xt hin⟩]) <+: YK m):=hide ⟨_,eu.out⟩;generalize U6++[⟨(y,x),Xt hin⟩]=kK at eu sS hR2;have HXP:=hide hxp;clear hR hJa hKa hlen hin hdr TJ hJ3 hkp3 hxp hap hkb hbit e0;gi_wp2_with fail;rw [<- hwa];clear hwa;rw [hyl];refine ⟨fun _=>hn1,?_⟩;refine hR2.out.mono ?_;rintro e W3 ⟨r,rfl,hr1,hr2⟩;have HR1:=hide hr1;have HR2:=hide hr2;clear hr1 hr2 hyl hR2;cases r with
              | false =>
                gi_wp2;unfold Exit.noGoto;dsimp only;go_end0;exact ⟨⟨_,rfl⟩,.inr ⟨kK,sS.out,HR2.out (by trivial)⟩⟩
              | true =>
                gi_wp2;go_roundw
                case rel=>exact ⟨x+1,kK,by omega,by go_num,eu,HR1.out (by trivial)⟩
                case measure=>simp [intOf];omega
          · rw [if_neg hbit] at hxp;obtain ⟨y,hy⟩:=eE (x ^^^ jv);rw [<- hy] at hxo hxp;have hjx:jv<=x:=(LA hj1 (by omega)).1;have hyx:(y:Int)<(x:Int):=(by omega);have e0:Yh K jv x=none:=(by unfold Yh;rw [if_pos (by omega)]);have eu:Hid (Ub U6++(((List.range N).drop (x+1)).filterMap (Yh K jv)++(merges N K b++rounds N (s+1) (m - (s+1))))=YK m):=hide (by rw [<- TJ.out,List.filterMap_cons_none e0]);have HJA:=hide (HJ.out _ _ _ none hJ3 (World.grownBy_alloc wr (.cells #[.int .i64 (x:Int),.int .i64 (y:Int)] 326) none) (fun r e=>by cases e));have HKA:=hide (hkp3.trans (Z9.of_below (Z5 (Below.refl _ _) (.cells #[.int .i64 (x:Int),.int .i64 (y:Int)] 326)) (fun k hk=>Nat.lt_of_lt_of_le (Lp k hk) hkp3.size)));clear hxa hxp hap hdr TJ hbit hy hjx e0 hJ3 hkp3;gi_wp2_with fail;go_roundw
            case rel=>exact ⟨x+1,U6,by omega,by go_num,eu,HJA.out,HKA.out⟩
            case measure=>simp [intOf];omega
        · obtain rfl:x=N:=(by omega);have eu:Hid (Ub U6++(merges x K b++rounds x (s+1) (m - (s+1)))=YK m):=hide (by rw [<- TJ.out,List.drop_of_length_le (by simp)];rfl);have hq:(jv:Int) / 2=((jv / 2:Nat):Int):=(by omega);obtain ⟨j2,hj2⟩:=eE (jv / 2);rw [<- hj2] at hq;have HJ2:Hid (j2=2 ^ b / 2):=hide (by rw [hj2,HJP.out]);have hlt:j2<jv:=(by omega);clear hj2 TJ;gi_wp2_with fail;go_roundw
          case rel=>exact ⟨b,j2,U6,by omega,rfl,HJ2,eu,hJ3,hkp3⟩
          case measure=>simp [intOf];omega
  · obtain rfl:s=m:=(by omega);have hNK:(N:Int)<(((2 ^ (s+1):Nat)):Int):=by
     have e:=HN.out;have e2:2 ^ (s+1)=2*2 ^ s:=(by rw [Nat.pow_succ,Nat.mul_comm]);omega
    have HP:Hid (Ub pre=YK s):=hide (by have:=hpre.out;rw [Nat.sub_self,rounds,List.append_nil] at this;exact this);obtain ⟨K,hK⟩:=eE (2 ^ (s+1));rw [<- hK] at hNK ⊢;clear hpre hK;gi_wp2_with fail;unfold Exit.noGoto;dsimp only;go_end0;exact ⟨⟨_,rfl⟩,.inl ⟨_,HP.out,hJs⟩⟩
theorem Hl(n:Nat)(hn1:1<=n)(Bv:Nat)(PE:Nat->Prop)(m:Nat)(hm:m<=12)(w:World)(Lp:∀ k,PE k->k<w.heap.size)(hPB:PE Bv)(xq:Z7 w Bv 3 #[.int .i64 ((2 ^ m:Nat):Int)]):
 SeqStopsK Fence.wide n prog 310 #[.pointer (some ⟨Bv,0,none⟩)] (AX (m:=m)) (Z9 PE) (fun ys=>Ub ys=YK m) (fun pre=>Ub pre <+: YK m) (YK m).length w:=by
 intro l J Jx W hW hJ _ hY h0;exact zzw n hn1 l Bv PE m hm J Jx W hJ (fun k hp=>Nat.lt_of_lt_of_le (Lp k hp) hW.size) hPB hY (xq.step hW) h0
theorem Cy(n:Int)(w:World):
 Calls prog 278 #[.int .i64 n] w fun e w'=>e=.returned (.func (.func 310) #[] #[.pointer (some ⟨w.heap.size,0,none⟩)])/\w'=w.alloc (.cells #[.int .i64 n] 3):=by
 go_enter func278,ntmps278;go_wp2;go_ret;exact ⟨rfl,rfl⟩
def lg(n:Nat):Nat:=Lib.bitLen (n - 1)
theorem jT{n:Nat}(h:n<=4096):lg n<=12:=Lib.bitLen_le (n - 1) 12 (by omega) (by omega)
theorem zvx:∀ (f x:Nat),x<2 ^ f->x<2 ^ Lib.bitLenAux f x
 | 0,x,h=>by simpa [Lib.bitLenAux] using h
 | f+1,x,h=>by
   rw [Lib.bitLenAux]
   by_cases hx:x=0
   · rw [if_pos hx,hx];exact Nat.two_pow_pos _
   · rw [if_neg hx,Nat.add_comm,Nat.pow_succ];have:=zvx f (x / 2) (by rw [Nat.pow_succ] at h;omega);omega
theorem zwj{n:Nat}(h:n<=4096):n<=2 ^ lg n:=by
 have h1:=zvx 64 (n - 1) (by omega)
 change n - 1<2 ^ lg n at h1
 omega
theorem Ho(n:Nat)(h1:1<=n)(h2:n<=4096)(w:World):
 Calls prog 277 #[.int .i64 (n:Int)] w fun e w'=>e=.returned (.int .i64 ((2 ^ lg n:Nat):Int))/\w=w':=by
 have g1:¬ (n:Int)<1:=by omega
 have g2:(n:Int)<=4096:=by omega
 have hl:=jT h2;have hp:=OO hl;have HL:=hide (fun w=>Any.bits_Len Tryz.lays125 ((n:Int) - 1) w (by omega) (by omega));have e:((n:Int) - 1).toNat=n - 1:=by omega
 rw [e] at HL;have e2:Lib.bitLen (n - 1)=lg n:=rfl;rw [e2] at HL;obtain ⟨L,hL⟩:=eE (lg n);rw [<- hL] at HL hl hp ⊢;clear e e2 hL;go_enter func277,ntmps277;go_wp2_with fail;refine (HL.out w).mono ?_;rintro e w' ⟨rfl,rfl⟩;go_wp2;go_ret;have hc:((2 ^ L:Nat):Int)=(2:Int) ^ L:=by simp
 have hw:wrap64 ((2:Int) ^ L)=((2 ^ L:Nat):Int):=by
  rw [<- hc];generalize 2 ^ L=p at hp;exact IntWalk.wrap64_in _ (by omega)
 exact ⟨Zf hw,rfl⟩
end
section
open Go.RowKit
def hrec(gs:List Gr)(q:(Int × Int) × Int):Int × Int:=if (YN gs && WH gs q.1)=true then (1,q.2) else (0,0)
def Y2(gs:List Gr)(qs:List ((Int × Int) × Int)):List (Int × Int):=qs.map (hrec gs)
def VB(rs:List (Int × Int)):Nat:=(rs.map fun r=>r.1.toNat).sum
def XY(gs:List Gr)(n:Nat):Int:=if YD (gs.map (·.1))≠0 then YD (gs.map (·.1)) else if n<1\/4096<n then 6 else 0
def YO(gs:List Gr)(qs:List ((Int × Int) × Int)):bU × Int :=
 if XY gs qs.length≠0 then (Wv,XY gs qs.length) else (⟨bif YN gs then 1 else 0,VB (Y2 gs qs),U2 Y9 (Y2 gs qs)⟩,0)
def XZ(gs:List Gr)(n:Nat):List Ev:=(List.range n).flatMap fun (i:Nat)=>(8,(i:Int),0)::YI gs
def Xb(n:Nat):List Ev:=(List.range n).map fun (i:Nat)=>(1,(i:Int),0)
def Y3(cs:List (Nat × Nat)):List Ev:=cs.map fun c=>(3,(c.1:Int),(c.2:Int))
def XQ(gs:List Gr)(n:Nat):List Ev:=if XY gs n≠0 then [] else Zp gs++XZ gs n++Xb n++Y3 (YK (lg n))
theorem iZ(gs:List Gr){q:(Int × Int) × Int}(h:Ua q.2):LK (hrec gs q):=by
 unfold hrec;split
 · exact .inl ⟨rfl,h.1,h.2⟩
 · exact .inr rfl
theorem QH(gs:List Gr){qs:List ((Int × Int) × Int)}(h:∀ q∈qs,Ua q.2):∀ r∈Y2 gs qs,LK r:=by
 intro r hr;obtain ⟨q,hq,rfl⟩:=List.mem_map.1 hr;exact iZ gs (h q hq)
theorem tQ{r:Int × Int}(h:LK r):Ua r.1/\Ua r.2:=by
 rcases h with ⟨h1,h2,h3⟩|h
 · exact ⟨by rw [h1];exact ⟨by decide,by decide⟩,h2,h3⟩
 · rw [h];exact ⟨⟨by decide,by decide⟩,by decide,by decide⟩
theorem oq{l r:List (Int × Int)}(h:l.Perm r):VB l=VB r:=(h.map _).sum_nat
theorem Oj:∀ l:List (Int × Int),(∀ r∈l,LK r)->VB l<=l.length
 | [],_=>Nat.le_refl _
 | r::l,h=>by
   have h1:=Oj l fun x hx=>h x (List.mem_cons_of_mem _ hx);have h2:r.1.toNat<=1:=by
    rcases h r (List.mem_cons_self ..) with ⟨h,_⟩|h
    · rw [h];decide
    · rw [h];decide
   unfold VB at h1 ⊢;rw [List.map_cons,List.sum_cons,List.length_cons];omega
theorem zxf{a r:Int × Int}(hr:LK r)(ha:a=(0,0))(h:Y9 a<=Y9 r):r=(0,0):=by
 rcases hr with ⟨h1,h2,h3⟩|h1
 · rw [ha] at h;unfold Y9 at h;rw [if_neg (by decide),if_pos h1] at h;omega
 · exact h1
theorem MN(c:Int):∀ (l:List (Int × Int)) (i:Nat),(∀ r∈l,r=(0,0))->c<=(i:Int)->WV c i l=true
 | [],_,_,_=>rfl
 | r::l,i,h,hc=>by
   have h1:=MN c l (i+1) (fun x hx=>h x (List.mem_cons_of_mem _ hx)) (by omega);have h2:=h r (List.mem_cons_self ..);subst h2;unfold WV U7;rw [h1,if_neg (by omega)];rfl
theorem Nn:∀ (l:List (Int × Int)),(∀ r∈l,r=(0,0))->VB l=0
 | [],_=>rfl
 | r::l,h=>by
   have h1:=Nn l fun x hx=>h x (List.mem_cons_of_mem _ hx);have h2:=h r (List.mem_cons_self ..);subst h2;unfold VB at h1 ⊢;rw [List.map_cons,List.sum_cons,h1];rfl
theorem Qj:∀ (l:List (Int × Int)) (i:Nat),(∀ r∈l,LK r)->l.Pairwise (fun a b=>Y9 a<=Y9 b)->WV ((i+VB l:Nat):Int) i l=true
 | [],_,_,_=>rfl
 | r::l,i,hc,hs=>by
   have hs':=List.pairwise_cons.1 hs;have hcl:∀ x∈l,LK x:=fun x hx=>hc x (List.mem_cons_of_mem _ hx);rcases hc r (List.mem_cons_self ..) with ⟨h1,h2,h3⟩|h1
   · have ih:=Qj l (i+1) hcl hs'.2;have e:i+VB (r::l)=i+1+VB l:=by
      unfold VB;rw [List.map_cons,List.sum_cons,h1];show i+(1+_)=_;omega
     rw [e];unfold WV U7;rw [if_pos (by omega),ih,h1];rfl
   · have hd:∀ x∈r::l,x=(0,0):=fun x hx=>by
      rcases List.mem_cons.1 hx with rfl|hx
      · exact h1
      · exact zxf (hcl x hx) h1 (hs'.1 x hx)
     rw [Nn _ hd];exact MN _ _ _ hd (by omega)
theorem ow(l:List (Int × Int)):VB (U2 Y9 l)=VB l:=oq (WU Y9 l)
theorem Ak{gs:List Gr}{qs:List ((Int × Int) × Int)}(hq:∀ q∈qs,Ua q.2)(h:XY gs qs.length=0):
 Vr 5 (qs.length:Int) (YO gs qs).1.val (YO gs qs).1.cnt (YO gs qs).1.recs=true:=by
 have hb:YO gs qs=(⟨bif YN gs then 1 else 0,VB (Y2 gs qs),U2 Y9 (Y2 gs qs)⟩,0):=by unfold YO;rw [if_neg (by simpa using h)]
 have hcl:=QH gs hq;have hle:=Oj _ hcl;have hlen:(Y2 gs qs).length=qs.length:=by unfold Y2;rw [List.length_map]
 rw [hb];dsimp only;have hok:=Qj (U2 Y9 (Y2 gs qs)) 0 (fun r hr=>hcl r ((WU Y9 _).mem_iff.1 hr)) (OE Y9 _);rw [ow,Nat.zero_add] at hok;unfold Vr;rw [hok,OD,hlen];cases hv:YN gs
 · have h0:VB (Y2 gs qs)=0:=Nn _ fun r hr=>by
    obtain ⟨q,_,rfl⟩:=List.mem_map.1 hr;unfold hrec;rw [hv];rfl
   rw [h0];simp [most,IK]
 · simp [most,IK];omega
end
section
open Go.RowKit Go.Shelf
attribute [local go_sem] Oper.semAt_some
def rU(l:List (Int × Int))(cs:List (Nat × Nat)):List (Int × Int):=cs.foldl (Pz Y9) l
def Vm(rs:List (Int × Int)):List (Int × Int):=rs++List.replicate (2 ^ lg rs.length - rs.length) (0,0)
theorem l7(l:List (Int × Int))(cs:List (Nat × Nat))(c:Nat × Nat):rU l (cs++[c])=Pz Y9 (rU l cs) c:=by simp [rU]
theorem CV(cs:List (Nat × Nat))(c:Nat × Nat):Y3 (cs++[c])=Y3 cs++[(3,(c.1:Int),(c.2:Int))]:=by simp [Y3]
theorem kG{rs:List (Int × Int)}(h:∀ r∈rs,LK r):∀ r∈Vm rs,LK r:=fun r hr=>by
 rcases List.mem_append.1 hr with hr|hr
 · exact h r hr
 · rw [List.eq_of_mem_replicate hr];exact .inr rfl
theorem CU{rs:List (Int × Int)}(h:rs.length<=4096):(Vm rs).length=2 ^ lg rs.length:=by
 have:=zwj h;unfold Vm;rw [List.length_append,List.length_replicate];omega
theorem K7(l:List (Int × Int))(cs:List (Nat × Nat)):(rU l cs).Perm l:=QF Y9 cs l
section
variable {F:Fence}{n:Nat}{P:Program}{ops:Array Oper}{Q:Exit->Act->World->Prop}{S:World->Prop}
def Qc(K:Act->World->Prop):Exit->Act->World->Prop
 | .normal,a,w=>K a w
 | _,_,_=>False
theorem Qc.intro{K:Act->World->Prop}{a:Act}{w:World}(h:K a w):Qc K .normal a w:=h
theorem l9 (sk:Nat) {id:Nat} {a:Act} {w:World} (hm:P.follows .mixedOrders=true)
 (h:YV F n P .any ops (Qc (Q .normal)) S sk ops.size (Array.replicate ops.size false) a w.drew):(Code.region id ops true).wpIn F n P Q a w:=by
 refine wpIn_mono (Yz sk (Q:=Qc (Q .normal)) hm h) ?_;intro e a w he;cases e with
 | normal=>exact he
 | _=>exact he.elim
end
theorem yJ(P:Nat->Prop)(t:Option (Nat × Nat))(es:List Ev)(k a b:Int)(w:World)(hP:∀ j,P j->j<w.heap.size)(ht:Tp w P t es)(hl:t=none\/es.length<=1000000)(hk:Zg k):
 Calls prog 259 #[.pointer (ZG t),.int .i64 k,.int .i64 a,.int .i64 b] w fun e w'=>e=.returned (.tuple #[])/\Z9 P w w'/\Xw t w w'/\Tp w' P t (es++[(k,a,b)]):=by
 rcases hl with rfl|hl
 · refine (VR P none [] k a b w hP trivial (by simp) hk).mono ?_;rintro e w' ⟨h1,h2,h3,_⟩;exact ⟨h1,h2,h3,trivial⟩
 · exact VR P t es k a b w hP ht hl hk
theorem addr_add(b off j:Nat):(⟨b,off,none⟩:Addr).add j=⟨b,off+j,none⟩:=by unfold Addr.add;split <;> simp_all
theorem lZ(P:Nat->Prop)(t:Option (Nat × Nat))(es:List Ev)(rs:List (Int × Int))(hcl:∀ r∈rs,LK r)(h1:1<=rs.length)(h2:rs.length<=4096)(A:Option Addr)(c:Nat)(w:World)(hP:∀ k,P k->k<w.heap.size)(hs:Wp w P A (Zb rs))(ht:Tp w P t es)(hl:t=none\/es.length+(YK (lg rs.length)).length<=1000000):
 Calls prog 208 #[.pointer (ZG t),.slice A rs.length c] w fun e w'=>∃ b,e=.returned (.slice (some ⟨b,0,none⟩) rs.length rs.length)/\Z9 P w w'/\Tp w' P t (es++Y3 (YK (lg rs.length)))/\¬ P b/\Sl w' w'.heap.size (some ⟨b,0,none⟩) (Zb (U2 Y9 rs)):=by
 have hL:=jT h2;have hge:=zwj h2;have zxx:=OO hL;have Qx:=hide (fun w=>Ho rs.length h1 h2 w);have uw:=CU h2;have zho:=kG hcl;obtain ⟨L,hLe⟩:=eE (lg rs.length);have HLE:=hide hLe;rw [<- hLe] at hL hge zxx Qx uw hl ⊢;obtain ⟨N,hN⟩:=eE (2 ^ L);have HN:=hide hN;rw [<- hN] at hge zxx Qx uw;have hN0:¬ (N:Int)=0:=by omega
 have hmk:=fun w=>G7 N (by omega) w;obtain ⟨tb,htb⟩:=eE w.heap.size;obtain ⟨w0,hw0⟩:=eE (w.alloc (.cells #[.pointer (ZG t)] 193));clear hLe hN;have hz0:w0.heap.size=tb+1:=by rw [hw0,htb];simp
 have T0:Z7 w0 tb 193 #[.pointer (ZG t)]:=by rw [hw0,htb];exact Z7.new _ _ _
 have hb0:=bE hw0;obtain ⟨W1,hW1⟩:∃ W1,(w0.alloc (.cells (madeCells #[.int .u64 0,.int .u64 0] (N*2)) 148)).alloc (.cells #[.slice (some ⟨tb+1,0,none⟩) N N] 110)=W1:=⟨_,rfl⟩;have R1:Z7 W1 (tb+1) 148 (madeCells #[.int .u64 0,.int .u64 0] (N*2)):=by rw [<- hW1,<- hz0];exact (Z7.new _ _ _).alloc _
 have O1:Z7 W1 (tb+1+1) 110 #[.slice (some ⟨tb+1,0,none⟩) N N]:=by
  have h:=Z7.new2 w0 (.cells (madeCells #[.int .u64 0,.int .u64 0] (N*2)) 148) 110 #[.slice (some ⟨tb+1,0,none⟩) N N];rw [hz0,hW1] at h;exact h
 have pz:Below w0.heap.size w0 W1:=by rw [<- hW1];exact Z5 (bA) _
 have T1:=T0.step pz;have hz1:W1.heap.size=tb+3:=by rw [<- hW1];simp [hz0]
 have hB1:=Z8 hb0 pz;have hs1:=(hs.kept (Z9.of_below hB1 hP)).sl (fun k hk=>Nat.lt_of_lt_of_le (hP k hk) hB1.size);obtain ⟨b,off,rfl,hbb,hcs⟩:=hs1.open_ (by have:=Y5 (fun p:Int × Int=>[Value.int .u64 p.1,.int .u64 p.2]) 2 (fun _=>rfl) rs;unfold Zb;rw [this];omega);have hrl:(Zb rs).length=rs.length*2:=Y5 (fun p:Int × Int=>[Value.int .u64 p.1,.int .u64 p.2]) 2 (fun _=>rfl) rs;have hmin:Nat.min rs.length N=rs.length:=Nat.min_eq_left hge;have hrun:=Rz (P:=prog) W1 110 110 3 148 2 (tb+1) 0 N N ⟨b,off,none⟩ rs.length c _ 148 (Zb rs) underlying110 (by kernel_rfl) R1 (by rw [hmin,hrl]) (fun j v hv=>by rw [addr_add];exact hcs j v hv) (by rw [size_madeCells,hrl];omega) (ru rs);have hh2:=setRow_heap W1 (tb+1) (madeCells #[.int .u64 0,.int .u64 0] (N*2)) ((madeCells #[.int .u64 0,.int .u64 0] (N*2)).toList.take 0++Zb rs++(madeCells #[.int .u64 0,.int .u64 0] (N*2)).toList.drop (0+(Zb rs).length)).toArray 148 _ R1;have Vx:Below w.heap.size w (W1.setRow (tb+1) ((madeCells #[.int .u64 0,.int .u64 0] (N*2)).toList.take 0++Zb rs++(madeCells #[.int .u64 0,.int .u64 0] (N*2)).toList.drop (0+(Zb rs).length)).toArray):=below_setRow hB1 (by omega) _;have GU:∀ k,k≠tb+1->(W1.setRow (tb+1) ((madeCells #[.int .u64 0,.int .u64 0] (N*2)).toList.take 0++Zb rs++(madeCells #[.int .u64 0,.int .u64 0] (N*2)).toList.drop (0+(Zb rs).length)).toArray).heap[k]?=W1.heap[k]?:=fun k hk=>setRow_other W1 (tb+1) k _ hk;rw [aN rs N hge] at hrun hh2 Vx GU;rw [hmin] at hrun;have zhn:rs++List.replicate (N - rs.length) (0,0)=Vm rs:=by unfold Vm;rw [<- HLE.out,<- HN.out]
 rw [zhn] at hrun hh2 Vx GU;obtain ⟨W2,hW2⟩:=eE (W1.setRow (tb+1) (QS (Vm rs)));rw [<- hW2] at hrun hh2 Vx GU;have R2:Z7 W2 (tb+1) 148 (QS (Vm rs)):=hh2;have O2:Z7 W2 (tb+1+1) 110 #[.slice (some ⟨tb+1,0,none⟩) N N]:=(GU _ (by omega)).trans O1;have T2:Z7 W2 tb 193 #[.pointer (ZG t)]:=(GU _ (by omega)).trans T1;have hz2:W2.heap.size=tb+3:=by rw [hW2,<- hz1];simp [World.setRow]
 have vK:=hide hrun;have HZ2:=hide hz2;have IG:=hide hcl;have HPC:=hide zho;have mR:=hide uw;have HS:=hide hs;have HP:=hide hP;have HT:=hide ht;have IE:=hide Vx;clear hrun hh2 GU hcs R1 O1 T1 pz hB1 hz1 hmin zhn hbb T0 hb0 hrl hs1 hz2 hcl zho uw hs hP ht Vx;refine (callsIn_wide (n:=6)).1 ?_;refine callsIn_of_wp_marks func208 rfl trivial ?_ rfl;simp only [ntmps208,List.size_toArray,List.length_cons,List.length_nil,Nat.reduceAdd,Nat.reduceSub,Array.replicate_succ,Array.replicate_zero,List.push_toArray,List.append_toArray,List.nil_append,List.cons_append];gi_wp2_with fail;rw [<- hw0,<- htb];have HTB:=hide htb;have HZ0:=hide hz0;have HW1:=hide hW1;have HW2:=hide hW2;clear hw0 htb hz0 hW1 hW2;refine ⟨trivial,?_⟩;refine (callsIn_wide.2 (Qx.out _)).mono ?_;rintro e w1 ⟨rfl,rfl⟩;gi_wp2_with fail;rw [HZ0.out,HW1.out,vK.out];clear vK HW1 HW2 hmk;have o2:=O2.q0 rfl;have NV:=hide (Z9.of_below IE.out HP.out);have HT2:=hide (HT.out.more IE.out);have HPM:=hide (Yr HP.out IE.out);gi_wp2_with fail
 gi_loopw [21] (fun i wr=>∃ k:Nat,k<=N/\i=.int .i64 k/\(Z7 wr tb 193 #[.pointer (ZG t)]/\Z7 wr (tb+1+1) 110 #[.slice (some ⟨tb+1,0,none⟩) N N]/\Z7 wr (tb+1) 148 (QS (Vm rs)))/\Z9 P W2 wr/\Tp wr (More P w W2) t es)
  (fun i _=>N - (intOf i).toNat)
 case atStart=>exact ⟨0,Nat.zero_le _,rfl,⟨T2,O2,R2⟩,Z9.refl _ _,HT2.out⟩
 case round =>
  clear T2 O2 R2 o2;obtain ⟨k,hk,rfl,⟨Tr,Or,Rr⟩,hkr,htr⟩:=hrel;have or:=Or.q0 rfl
  by_cases hlt:k<N
  · have Nv:(k:Int)<(N:Int):=(by omega);obtain ⟨r,hr⟩:∃ r,(Vm rs)[k]?=some r:=⟨_,List.getElem?_eq_getElem (by rw [mR.out];exact hlt)⟩;have hrc:=HPC.out r (List.mem_of_getElem? hr);have hu:=tQ hrc;have HC:=hide (fun wk=>QB r.1 r.2 hu.1.1 hu.1.2 hu.2.1 hu.2.2 wk);rw [yU hrc] at HC;obtain ⟨g0,g1⟩:=VY hr;have Jp:=hide g0;have HG1:=hide g1;have c0:=Rr.cell g0;have c1:=Rr.cell g1;obtain ⟨x1,x2⟩:=r;dsimp only at *;have hNP:¬ P (tb+1):=fun h=>by have:=HP.out _ h;have:=HTB.out;omega
    have HRR:=hide Rr;have HTR:=hide Tr;have dZ:=hide Or;have dU:=hide hkr;have HTT:=hide htr;have Sg:=hide hNP;clear hrc hu hr g0 g1 Rr Tr Or hkr htr hNP;have Yv:prog.follows .mixedOrders=true:=(by kernel_rfl);gi_wp2_with fail;refine l9 8 (S:=fun w'=>Z7 w' (tb+1+1) 110 #[.slice (some ⟨tb+1,0,none⟩) N N]/\Z7 w' (tb+1) 148 (QS (Vm rs))) Yv ?_;have hS:Z7 wr.drew (tb+1+1) 110 #[.slice (some ⟨tb+1,0,none⟩) N N]/\Z7 wr.drew (tb+1) 148 (QS (Vm rs)):=⟨dZ.out.drew,HRR.out.drew⟩;refine' Z0 (i:=0) rfl ?VK hS ?Uz
    case VK =>
     intro w' hSw;obtain ⟨s1,s2⟩:=hSw;have z1:=s1.q0 rfl;have z2:=s2.cell Jp.out;have z3:=s2.cell HG1.out;go_simp;rfl
    simp only [Act.put,getElem_toArray,getElem_cons_zero,setIfInBounds_toArray,set_cons_zero,set_cons_succ];refine' Z0 (i:=1) rfl ?VL hS ?UA
    case VL =>
     intro w' hSw;go_simp;rfl
    simp only [Act.put,Z6];refine' Z0 (i:=2) rfl ?VN hS ?UC
    case VN =>
     intro w' hSw;obtain ⟨s1,s2⟩:=hSw;have z1:=s1.q0 rfl;have z2:=s2.cell Jp.out;have z3:=s2.cell HG1.out;go_simp;rfl
    simp only [Act.put,Z6];refine' Z0 (i:=3) rfl ?U1 hS ?Tm
    case U1 =>
     intro w' hSw;go_simp;rfl
    simp only [Act.put,Z6];refine' Z0 (i:=4) rfl ?Oz hS ?LG
    case Oz =>
     intro w' hSw;obtain ⟨s1,s2⟩:=hSw;have z1:=s1.q0 rfl;have z2:=s2.cell Jp.out;have z3:=s2.cell HG1.out;go_simp;rfl
    simp only [Act.put,Z6];refine' Z0 (i:=5) rfl ?OB hS ?LH
    case OB =>
     intro w' hSw;obtain ⟨s1,s2⟩:=hSw;have z1:=s1.q0 rfl;have z2:=s2.cell Jp.out;have z3:=s2.cell HG1.out;go_simp;rfl
    simp only [Act.put,Z6];refine Zc (i:=6) (by kernel_rfl) rfl ?_;intro K hK;rw [if_pos (by rfl)];go_simp;refine ⟨trivial,?_⟩;refine (callsIn_wide.2 (HC.out _)).mono ?_;rintro e w3 ⟨rfl,hb3⟩;have D7:Z7 w3 (tb+1+1) 110 #[.slice (some ⟨tb+1,0,none⟩) N N]/\Z7 w3 (tb+1) 148 (QS (Vm rs)):=⟨dZ.out.drew.step hb3,HRR.out.drew.step hb3⟩;refine hK.out _ _ (fun _=>D7) ?_;clear hK K
    (try simp only [Act.put,Z6])
    refine' Z0 (i:=7) rfl ?OC D7 ?LJ
    case OC =>
     intro w' hSw;obtain ⟨s1,s2⟩:=hSw;have z1:=s1.q0 rfl;have z2:=s2.cell Jp.out;have z3:=s2.cell HG1.out;go_simp;rfl
    simp only [Act.put,Z6];have B3:=D7.2;have c0:=B3.cell Jp.out;have c1:=B3.cell HG1.out;have f0:=B3.frozen (k*2);have f1:=B3.frozen (k*2+1);refine Zc (i:=8) (by kernel_rfl) rfl ?_;intro K hK;rw [if_pos (by rfl)];go_simp;refine hK.out _ _ (fun h=>absurd rfl h) ?_;clear hK K;refine Yc (by kernel_rfl) ?_ _;refine Qc.intro ?_
    have D8:Z7 ((w3.setCell ⟨tb+1,k*2,none⟩ (.int .u64 x1)).setCell ⟨tb+1,k*2+1,none⟩ (.int .u64 x2)) tb 193 #[.pointer (ZG t)]/\Z7 ((w3.setCell ⟨tb+1,k*2,none⟩ (.int .u64 x1)).setCell ⟨tb+1,k*2+1,none⟩ (.int .u64 x2)) (tb+1+1) 110 #[.slice (some ⟨tb+1,0,none⟩) N N]/\Z7 ((w3.setCell ⟨tb+1,k*2,none⟩ (.int .u64 x1)).setCell ⟨tb+1,k*2+1,none⟩ (.int .u64 x2)) (tb+1) 148 (QS (Vm rs)) :=
     ⟨((HTR.out.drew.step hb3).far (p:=⟨tb+1,k*2,none⟩) (by dsimp only;omega) _).far (p:=⟨tb+1,k*2+1,none⟩) (by dsimp only;omega) _,(D7.1.far (p:=⟨tb+1,k*2,none⟩) (by dsimp only;omega) _).far (p:=⟨tb+1,k*2+1,none⟩) (by dsimp only;omega) _,(D7.2.same Jp.out).same HG1.out⟩
    have hk5:Z9 P W2 ((w3.setCell ⟨tb+1,k*2,none⟩ (.int .u64 x1)).setCell ⟨tb+1,k*2+1,none⟩ (.int .u64 x2)) :=
     (dU.out.trans ((Z9.drew _ _).trans (Z9.of_below hb3 fun j hj=>Nat.lt_of_lt_of_le (HP.out j hj) (NV.out.trans dU.out).size))).trans ((Z9.setCell Sg.out _ _ _).trans (Z9.setCell Sg.out _ _ _))
    have hmem:More P w W2 (tb+1):=.inr ⟨by have:=HTB.out;omega,by have:=HZ2.out;omega⟩;have Rf:Tp ((w3.setCell ⟨tb+1,k*2,none⟩ (.int .u64 x1)).setCell ⟨tb+1,k*2+1,none⟩ (.int .u64 x2)) (More P w W2) t es:=((HTT.out.drew.step hb3).set hmem _ _).set hmem _ _;have Ue:=hide (And.intro D8 (And.intro hk5 Rf));clear D8 hk5 Rf D7 hS hb3 B3 c0 c1 f0 f1 or;gi_wp2;go_roundw
    case rel=>exact ⟨k+1,by omega,by go_num,Ue.out⟩
    case measure=>simp [intOf];omega
  · obtain rfl:N=k:=(by omega);obtain ⟨g,hg⟩:=eE wr.heap.size;have SE:=hide (fun wk=>Cy (N:Int) wk);have HTR:=hide Tr;have dZ:=hide Or;have HRR:=hide Rr;have dU:=hide hkr;have HTT:=hide htr;have HGG:=hide hg;clear Tr Or Rr hkr htr or;gi_wp2_with fail;refine ⟨trivial,?_⟩;refine (callsIn_wide.2 (SE.out _)).mono ?_;rintro e w3 ⟨rfl,rfl⟩;obtain ⟨W4,um⟩:∃ W4,wr.alloc (.cells #[.int .i64 (N:Int)] 3)=W4:=⟨_,rfl⟩;rw [<- hg,um];clear hg;have hb4:Below wr.heap.size wr W4:=(by rw [<- um];exact bA);have G4:Z7 W4 g 3 #[.int .i64 ((2 ^ L:Nat):Int)]:=(by rw [<- um,HGG.out,<- HN.out];exact Z7.new _ _ _);have T4:=HTR.out.step hb4;have O4:=dZ.out.step hb4;have R4:=HRR.out.step hb4;have hz4:W4.heap.size=g+1:=(by rw [<- um,HGG.out];simp);have hgt:tb+3<=g:=(by have:=dU.out.size;have:=HZ2.out;have:=HGG.out;omega);have xu:∀ k,P k->k<tb:=fun k hk=>by have:=HP.out k hk;have:=HTB.out;omega
    have Lp:∀ k,Also P g k->k<W4.heap.size:=fun k hk=>by
     rcases hk with hk|hk
     · have:=xu k hk;omega
     · omega
    have hQ:∀ k,Also (More P w W2) g k->k<W4.heap.size:=fun k hk=>by
     rcases hk with hk|hk
     · have:=HPM.out k hk;have:=HZ2.out;omega
     · omega
    have I6:Tp W4 (Also (More P w W2) g) t es:=(HTT.out.add (R:=Also (More P w W2) g) fun j hj=>by
     rcases hj with hj|hj
     · exact .inl hj
     · exact .inr (by have:=HGG.out;omega)).step hb4
    have hmb:∀ u,t=some u->u.2<W4.heap.size:=I6.zuk;have hM:∀ k,tb<=k->k<tb+3->Also (More P w W2) g k:=fun k h1 h2=>.inl (.inr ⟨by have:=HTB.out;omega,by have:=HZ2.out;omega⟩);have bZ:=hide (hM tb (by omega) (by omega));have HMR:=hide (hM (tb+1) (by omega) (by omega));have mQ:=hide (hM (tb+1+1) (by omega) (by omega));have HMG:Hid (Also (More P w W2) g g):=.inr rfl
    have HPI:Hid (∀ k,Also P g k->Also (More P w W2) g k):=fun k hk=>by
     rcases hk with hk|hk
     · exact .inl (.inl hk)
     · exact .inr hk
    have Oc:Hid (¬ Also P g (tb+1)):=fun h=>by
     rcases h with h|h
     · have:=xu _ h;omega
     · omega
    have HK4:=hide (NV.out.trans (dU.out.trans (Z9.of_below hb4 fun j hj=>by have:=xu j hj;have:=HGG.out;omega)));have Lf:=hide Lp;have HQ:=hide hQ;have HT4:=hide I6;have Ga:=hide hmb;have HGT:=hide hgt;have HZ4:=hide hz4;have yyt:=hide xu;have HG4:=hide G4;clear hb4 hz4 hgt xu Lp hQ I6 hmb hM um SE G4 dU HTT HTR dZ HRR hlt hk;gi_wp2_with fail
    refine wpIn_rangeFunc_ownH rfl (by omega) (gf:=310) (lb:=#[.pointer (some ⟨g,0,none⟩)]) rfl trivial (enters_of func310 (by kernel_rfl) rfl)
     (Hl 5 (by omega) g (Also P g) L hL W4 Lf.out (.inr rfl) HG4.out) Z9.trans (fun W l o o' hl _ _ _=>Z9.putObj o' (fun h=>by have:=Lf.out _ h;omega) W) (Below.refl _ _) (fun _=>rfl)
     (fun pre W=>(((Z7 W tb 193 #[.pointer (ZG t)]/\Z7 W (tb+1+1) 110 #[.slice (some ⟨tb+1,0,none⟩) N N])/\Z7 W (tb+1) 148 (QS (rU (Vm rs) (Ub pre))))/\(Z9 (Also P g) W4 W/\Tp W (Also (More P w W2) g) t (es++Y3 (Ub pre)))))
     (fun _ _ _=>False)
     (OwnFrom.and (OwnFrom.and (OwnFrom.and (Own.from (XR _ _ _) _) (Own.from (XR _ _ _) _)) (Own.from (XR _ _ _) _)) (OwnFrom.and (Uk (fun k hk=>⟨Lf.out k hk,Lf.out k hk⟩)) (WY _ (Also (More P w W2) g) t (fun pre:List (sJ L)=>es++Y3 (Ub pre)) Ga.out)))
     (fun _ _ _ _ _ hs _ _=>hs)
     ⟨⟨⟨T4,O4⟩,R4⟩,Z9.refl _ _,by simpa [Y3,Ub] using HT4.out⟩
     (fun x a' W=>∃ Bx es',g<Bx/\Tp W (Also (Also (More P w W2) g) Bx) t es'/\Z7 W Bx 326 #[.int .i64 (x.1.1:Int),.int .i64 (x.1.2:Int)]/\a'={ tmps:=#[.pointer (ZG t),.slice (some ⟨b,off,none⟩) rs.length c,.pointer (some ⟨tb,0,none⟩),undef,.slice none 0 0,.int .i64 (N:Int),.pointer (some ⟨tb+1+1,0,none⟩),u7,.pointer (some ⟨Bx,0,none⟩),.slice (some ⟨b,off,none⟩) rs.length c,.int .i64 (rs.length:Int),.int .i64 (N:Int),.int .i64 (N:Int),.bool false,.int .i64 (N:Int),.slice (some ⟨tb+1,0,none⟩) N N,.slice (some ⟨tb+1,0,none⟩) N N,.slice (some ⟨b,off,none⟩) rs.length c,.int .i64 (rs.length:Int),.slice (some ⟨tb+1,0,none⟩) N N,.int .i64 (N:Int),.int .i64 (N:Int),.bool false,u23,u24,u25,u26,u27,u28,u29,u30,u31,u32,.int .i64 (N:Int),.func (.func 310) #[] #[.pointer (some ⟨g,0,none⟩)],.agg #[.int .i64 (x.1.1:Int),.int .i64 (x.1.2:Int)],undef,undef,undef,undef,undef,undef,undef,undef,undef,undef,undef,undef,undef,undef,undef,undef,undef,undef,undef,undef,undef],defers:=[] })
     (fun x a' _ X Y row hs hg hr=>by obtain ⟨Bx,es',h1,hT,h2,h3⟩:=hs;exact ⟨Bx,es',h1,WY _ _ t (fun _:Unit=>es') Ga.out () X Y row hT hg hr,XR Bx 326 (fun (_:Unit)=>#[.int .i64 (x.1.1:Int),.int .i64 (x.1.2:Int)]) () X Y row h2 hg (fun r e=>(hr r e).2),h3⟩)
     ?assign ?body ?done ?stop
    case assign =>
     rintro l pre x W K ⟨⟨⟨T1,O1⟩,R1⟩,hB1,hT1⟩ hK;have hWz:W4.heap.size<=W.heap.size:=hB1.size;unfold AX;gi_wp2;have hEW:∀ k,Also P g k->k<W.heap.size:=fun k hk=>Nat.lt_of_lt_of_le (Lf.out k hk) hWz;refine hK _ _ ((KeepsOthers.alloc _ _).from _) (Z9.of_below (bA) hEW) ⟨⟨⟨T1.alloc _,O1.alloc _⟩,R1.alloc _⟩,hB1.trans (Z9.of_below (bA) hEW),hT1.step (bA)⟩ ⟨W.heap.size,es++Y3 (Ub pre),by have:=HZ4.out;omega,?_,Z7.new _ _ _,rfl⟩;refine (hT1.add (R:=Also (Also (More P w W2) g) W.heap.size) fun k hk=>?_).step (bA);rcases hk with hk|hk
     · exact .inl hk
     · exact .inr (by omega)
    case body =>
     rintro l pre x a' W hl' _ ⟨⟨⟨T1,O1⟩,R1⟩,hB1,hT1⟩ ⟨Bx,es',hBx,hTx,bX,rfl⟩ hpl;have hszW:W4.heap.size<=W.heap.size:=hB1.size;have pq:=hT1.with hTx
     clear hT1 hTx;have Yv:prog.follows .mixedOrders=true:=(by kernel_rfl);obtain ⟨⟨lo,hi⟩,hin1,hin2,zxr⟩:=x;dsimp only at *;have hsl:(rU (Vm rs) (Ub pre)).length=N:=(by rw [(K7 _ _).length_eq];exact mR.out);have zhf:lo<N:=(by rw [HN.out];exact hin1);have zha:hi<N:=(by rw [HN.out];exact hin2);obtain ⟨xr,hxr⟩:∃ xr,(rU (Vm rs) (Ub pre))[lo]?=some xr:=⟨_,List.getElem?_eq_getElem (by rw [hsl];exact zhf)⟩;obtain ⟨yr,hyr⟩:∃ yr,(rU (Vm rs) (Ub pre))[hi]?=some yr:=⟨_,List.getElem?_eq_getElem (by rw [hsl];exact zha)⟩;have hxc:=HPC.out xr ((K7 _ _).mem_iff.1 (List.mem_of_getElem? hxr));have hyc:=HPC.out yr ((K7 _ _).mem_iff.1 (List.mem_of_getElem? hyr));have hle:t=none\/(es++Y3 (Ub pre)).length<=1000000:=by
      rcases hl with h|h
      · exact .inl h
      · refine .inr ?_;rw [List.length_append,Y3,List.length_map,Ub,List.length_map];omega
     have yzu:(lo:Int)<(N:Int):=(by omega);have yzm:(hi:Int)<(N:Int):=(by omega);have zP:=hide (l7 (Vm rs) (Ub pre) (lo,hi));have HPX:=hide (CV (Ub pre) (lo,hi));have HCU:Hid (Ub (pre++[⟨(lo,hi),hin1,hin2,zxr⟩])=Ub pre++[(lo,hi)]):=JG _ _
     have hQ2:∀ k,Also (Also (More P w W2) g) Bx k->k<W.heap.size:=fun k hk=>by
      rcases hk with hk|hk
      · exact Nat.lt_of_lt_of_le (HQ.out k hk) hszW
      · subst hk;exact bX.lt
     have RY:=hide (yJ (Also (Also (More P w W2) g) Bx) t (es++Y3 (Ub pre)) 3 (lo:Int) (hi:Int) W hQ2 pq hle (by unfold Zg;omega))
     have HEX:Hid (∀ wk,Z7 wk (tb+1) 148 (QS (rU (Vm rs) (Ub pre)))->Calls prog 279 #[.pointer (some ⟨tb+1,lo*2,none⟩),.pointer (some ⟨tb+1,hi*2,none⟩)] wk fun e w'=>e=.returned (.tuple #[])/\Z7 w' (tb+1) 148 (QS (rU (Vm rs) (Ub pre++[(lo,hi)])))/\wk.grownBy w' (some (tb+1))):=hide fun wk hB=>by
      refine (Ey (tb+1) 148 _ (lo*2) (hi*2) xr yr hxc hyc wk hB (VY hxr).1 (VY hxr).2 (VY hyr).1 (VY hyr).2 (by omega)).mono ?_;rintro e w' ⟨rfl,hq⟩;rw [zP.out];exact ⟨rfl,zxl hxr hyr zxr hq⟩
     have t1:=T1.q0 rfl;have x0:=bX.q0 rfl;have x1:=bX.q1 rfl;have HT1:=hide T1;have Eh:=hide O1;have HR1:=hide R1;have Nb:=hide bX;have HB1:=hide hB1;have zay:=hide hBx;have Qx:=hide hszW;clear T1 O1 R1 bX hB1 pq hxr hyr hxc hyc hle hQ2 hsl hBx hszW zhf zha hpl zP;gi_wp2_with fail;refine ⟨trivial,?_⟩;refine (CallsIn.inRound l (callsIn_wide.2 RY.out)).mono ?_;rintro e wn ⟨rfl,hkk,hmm,htn⟩;have Tn:=HT1.out.kept hkk (.inl bZ.out);have On:=Eh.out.kept hkk (.inl mQ.out);have Rn:=HR1.out.kept hkk (.inl HMR.out);have Xn:=Nb.out.kept hkk (.inr rfl);have HTN:=hide Tn;have HRN:=hide Rn;have HKK:=hide hkk;have HMM:=hide hmm;have zbq:=hide htn;clear t1 x0 x1 Tn Rn hkk hmm htn RY;gi_wp2_with fail;refine Yz 1000 (S:=fun w'=>Z7 w' (tb+1+1) 110 #[.slice (some ⟨tb+1,0,none⟩) N N]/\Z7 w' Bx 326 #[.int .i64 (lo:Int),.int .i64 (hi:Int)]) Yv ?_;have hS:Z7 wn.drew (tb+1+1) 110 #[.slice (some ⟨tb+1,0,none⟩) N N]/\Z7 wn.drew Bx 326 #[.int .i64 (lo:Int),.int .i64 (hi:Int)]:=⟨On.drew,Xn.drew⟩;refine' Z0 (i:=0) rfl ?zrb hS ?zjk
     case zrb =>
      intro w' hSw;obtain ⟨s1,s2⟩:=hSw;have z1:=s1.q0 rfl;have z2:=s2.q0 rfl;have z3:=s2.q1 rfl;go_simp;rfl
     simp only [Act.put,getElem_toArray,getElem_cons_zero,setIfInBounds_toArray,set_cons_zero,set_cons_succ];refine' Z0 (i:=1) rfl ?zro hS ?zjy
     case zro =>
      intro w' hSw;go_simp;rfl
     simp only [Act.put,Z6];refine' Z0 (i:=2) rfl ?zry hS ?zki
     case zry =>
      intro w' hSw;obtain ⟨s1,s2⟩:=hSw;have z1:=s1.q0 rfl;have z2:=s2.q0 rfl;have z3:=s2.q1 rfl;go_simp;rfl
     simp only [Act.put,Z6];refine' Z0 (i:=3) rfl ?zsi hS ?zks
     case zsi =>
      intro w' hSw;go_simp;rfl
     simp only [Act.put,Z6];refine' Z0 (i:=4) rfl ?zsn hS ?zkx
     case zsn =>
      intro w' hSw;obtain ⟨s1,s2⟩:=hSw;have z1:=s1.q0 rfl;have z2:=s2.q0 rfl;have z3:=s2.q1 rfl;go_simp;rfl
     simp only [Act.put,Z6];refine' Z0 (i:=5) rfl ?zsv hS ?zlf
     case zsv =>
      intro w' hSw;go_simp;rfl
     simp only [Act.put,Z6];refine' Z0 (i:=6) rfl ?ztd hS ?zln
     case ztd =>
      intro w' hSw;obtain ⟨s1,s2⟩:=hSw;have z1:=s1.q0 rfl;have z2:=s2.q0 rfl;have z3:=s2.q1 rfl;go_simp;rfl
     simp only [Act.put,Z6];refine' Z0 (i:=7) rfl ?zth hS ?zlr
     case zth =>
      intro w' hSw;go_simp;rfl
     simp only [Act.put,Z6];refine Zc (i:=8) (by kernel_rfl) rfl ?_;intro K hK;rw [if_pos (by rfl)];go_simp;refine ⟨trivial,?_⟩;refine (CallsIn.inRound l (callsIn_wide.2 (HEX.out _ HRN.out.drew))).mono ?_;rintro e w5 ⟨rfl,hR5,hg5⟩;have hS5:Z7 w5 (tb+1+1) 110 #[.slice (some ⟨tb+1,0,none⟩) N N]/\Z7 w5 Bx 326 #[.int .i64 (lo:Int),.int .i64 (hi:Int)]:=⟨On.drew.grown hg5 (by intro h;injection h;omega),Xn.drew.grown hg5 (by intro h;cases h;have:=zay.out;have:=HGT.out;omega)⟩;refine hK.out _ _ (fun _=>hS5) ?_;clear hK K;refine Yc (by kernel_rfl) ?_ _;have hT5:Z7 w5 tb 193 #[.pointer (ZG t)]:=HTN.out.drew.grown hg5 (by intro h;injection h;omega);have hk5:Z9 (Also P g) W w5:=(HKK.out.mono fun j hj=>.inl (HPI.out j hj)).trans ((Z9.drew _ _).trans ⟨hg5.os,hg5.tape,hg5.output,hg5.size,fun j hj=>hg5.block j (Nat.lt_of_lt_of_le (Lf.out j hj) (Nat.le_trans Qx.out HKK.out.size)) (fun h=>Oc.out (by cases h;exact hj))⟩);have hf5:KeepsFrom W4.heap.size W w5:=(HMM.out.from Ga.out).trans ((KeepsFrom.of_below (ZV (Below.refl _ _))).trans ⟨hg5.size,fun j o hj hi ho=>(hg5.block j (Array.getElem?_eq_some_iff.1 hi).1 (fun h=>by cases h;have:=HZ4.out;have:=HGT.out;omega)).trans hi⟩);have Rf:Tp w5 (Also (More P w W2) g) t (es++Y3 (Ub pre++[(lo,hi)])):=by
      rw [HPX.out,<- List.append_assoc];exact ((zbq.out.drew.kept hg5 (.inl HMR.out)).mono fun j hj=>.inl hj)
     have dR:=hide (show KeepsFrom W4.heap.size W w5/\Z9 (Also P g) W w5/\(((Z7 w5 tb 193 #[.pointer (ZG t)]/\Z7 w5 (tb+1+1) 110 #[.slice (some ⟨tb+1,0,none⟩) N N])/\Z7 w5 (tb+1) 148 (QS (rU (Vm rs) (Ub (pre++[⟨(lo,hi),hin1,hin2,zxr⟩])))))/\(Z9 (Also P g) W4 w5/\Tp w5 (Also (More P w W2) g) t (es++Y3 (Ub (pre++[⟨(lo,hi),hin1,hin2,zxr⟩]))))) from ⟨hf5,hk5,⟨⟨hT5,hS5.1⟩,by rw [HCU.out];exact hR5⟩,HB1.out.trans hk5,by rw [HCU.out];exact Rf⟩);clear hf5 hk5 hT5 hS5 hR5 Rf hS hg5 On Xn;gi_wp2;exact dR.out
    case done =>
     rintro D zs W hD hzs ⟨⟨⟨T1,O1⟩,R1⟩,hB1,hT1⟩ hK;have o1:=O1.q0 rfl;rw [hzs] at R1 hT1;have hni:=yH L rs IG.out (by rw [<- HN.out];exact hge);have hpd:Vm rs=rs++List.replicate (2 ^ L - rs.length) (0,0):=(by unfold Vm;rw [<- HLE.out]);have hsr:rU (Vm rs) (YK L)=U2 Y9 rs++List.replicate (2 ^ L - rs.length) (0,0):=(by unfold rU;rw [hpd];exact hni);rw [hsr] at R1
     have hSL:Sl W W.heap.size (some ⟨tb+1,0,none⟩) (Zb (U2 Y9 rs)):=UD R1 fun j u hu=>by
      unfold Zb at hu;unfold QS Zb;rw [List.flatMap_append,List.getElem?_toArray,List.getElem?_append_left (List.getElem?_eq_some_iff.1 hu).1];exact hu
     have hkk:Z9 P w W:=HK4.out.trans (hB1.mono fun j hj=>.inl hj);have HSL:=hide hSL;have HKK:=hide hkk;have HT1:=hide hT1;clear T1 O1 R1 hB1 hT1 hni hpd hsr hSL hkk;have hlen:(rs.length:Int)<=(N:Int):=(by omega);gi_wp2;refine ⟨by simp,.inl ⟨_,_,rfl,run_takeDeferred hK,?_⟩⟩;have hDP:¬ P D:=fun h=>by have:=Lf.out D (.inl h);omega
     have hDt:D≠tb+1:=(by have:=HZ4.out;have:=HGT.out;omega);have zck:¬ P (tb+1):=fun h=>Oc.out (.inl h);refine ⟨_,results_tmp rfl _ _ _,tb+1,rfl,HKK.out.trans (Z9.putObj _ hDP _),?_,zck,?_⟩
     · exact (HT1.out.mono (R:=P) fun k h=>.inl (.inl h)).putObj (fun u hu=>Nat.lt_of_lt_of_le (Ga.out u hu) hD) hK rfl _
     · refine (HSL.out.at_ fun k hk _ x hx hxb=>?_).more (by simp);cases hx;subst hxb;exact World.putObj_heap_other (Ne.symm hDt)
    case stop =>
     rintro D c pre W _ _ h _;exact h.elim
end
section
open Go.RowKit
section
variable {F:Fence}{n:Nat}{P:Program}{ops:Array Oper}{Q:Exit->Act->World->Prop}{md:Region.Mode}{S:World->Prop}
def zfx(md:Region.Mode)(ops:Array Oper)(i:Nat):List Bool:=ops.toList.foldl (fun acc o=>acc++[o.after.toList.any fun e=>Region.binds md e && (e.on == i || acc.getD e.on false)]) []
def zK(md:Region.Mode)(ops:Array Oper)(sk i:Nat)(listed:Array Bool)(dep:List Bool):Bool :=
 ((List.range ops.size).all fun j=>!dep.getD j false || (ops[j]?).any fun o=>o.after.toList.any fun e=>Region.binds md e && (e.on == i || dep.getD e.on false)) &&
 ((List.range ops.size).all fun j=>decide (j<sk) || dep.getD j false) && ((List.range dep.length).all fun k=>!listed.getD k false || !dep.getD k false)
structure vU(md:Region.Mode)(ops:Array Oper)(sk i:Nat)(listed:Array Bool)(dep:List Bool):Prop where
 why:∀ (j:Nat) (o:Oper),ops[j]?=some o->dep.getD j false=true->∃ e∈o.after,Region.binds md e=true/\(e.on=i\/dep.getD e.on false=true)
 far:∀ (j:Nat) (o:Oper),ops[j]?=some o->sk<=j->dep.getD j false=true
 un:∀ k,listed.getD k false=true->dep.getD k false=false
theorem D5{sk i:Nat}{listed:Array Bool}{dep:List Bool}(h:zK md ops sk i listed dep=true):vU md ops sk i listed dep:=by
 unfold zK at h;rw [Bool.and_eq_true,Bool.and_eq_true] at h;obtain ⟨⟨h1,h2⟩,h3⟩:=h;refine ⟨fun j o ho hd=>?_,fun j o ho hj=>?_,fun k hk=>?_⟩
 · have h:=List.all_eq_true.1 h1 j (List.mem_range.2 (Array.getElem?_eq_some_iff.1 ho).1);rw [hd,ho] at h;simp only [Bool.not_true,Bool.false_or,Option.any_some] at h;obtain ⟨e,he,hb⟩:=List.any_eq_true.1 h;rw [Bool.and_eq_true,Bool.or_eq_true,beq_iff_eq] at hb;exact ⟨e,by simpa using he,hb.1,hb.2⟩
 · have h:=List.all_eq_true.1 h2 j (List.mem_range.2 (Array.getElem?_eq_some_iff.1 ho).1);rw [Bool.or_eq_true,decide_eq_true_eq] at h;rcases h with h|h
   · omega
   · exact h
 · by_cases hl:k<dep.length
   · have h:=List.all_eq_true.1 h3 k (List.mem_range.2 hl);rw [hk] at h;simpa using h
   · rw [List.getD_eq_getElem?_getD,List.getElem?_eq_none (by omega)];rfl
def Vb(F:Fence)(n:Nat)(P:Program)(md:Region.Mode)(ops:Array Oper)(Q:Exit->Act->World->Prop)(S:World->Prop)(sk:Nat):Nat->Array Bool->Act->World->Prop
 | 0,listed,a,w=>Region.ready md ops listed=[]/\Q .normal a w
 | fuel+1,listed,a,w =>
   (Region.ready md ops listed=[]->Q .normal a w) /\
   ∀ i∈Region.ready md ops listed,wpOpIn F n P ops Q i (fun a' w'=>(i<sk->S w')/\Vb F n P md ops Q S sk fuel (listed.setIfInBounds i true) a' w') a w
theorem TW{sk:Nat}:∀ (fuel:Nat) (listed:Array Bool) (a:Act) (w:World),Vb F n P md ops Q S sk fuel listed a w->wpAnyIn F n P md ops Q fuel listed a w
 | 0,_,_,_,h=>h
 | fuel+1,_,_,_,h=>⟨h.1,fun i hi=>wpOpIn_mono (fun a' w' h'=>TW fuel _ a' w' h'.2) (h.2 i hi)⟩
theorem F4 {i sk:Nat} {oi:Oper} {v:Value} (hnd:Us ops) (hi:ops[i]?=some oi) (hsel:∀ (j:Nat) (o:Oper) cs b,ops[j]?=some o->o.op≠.select cs b)
 (hQ:∀ c a w,Q (.panic c) (a.put oi.dst v) w->Q (.panic c) a w) (dep:List Bool) :
 ∀ (fuel:Nat) (listed:Array Bool) (a:Act) (w:World),
   (∀ j oj,ops[j]?=some oj->j≠i->listed.getD j true=false->(∀ e∈oj.after,Region.binds md e=true->e.on≠i)->oi.apart ops oj=true) ->
   i∈Region.ready md ops listed->vU md ops sk i listed dep->YH P ops S oi v a->S w ->
   Vb F n P md ops Q S sk fuel (listed.setIfInBounds i true) (a.put oi.dst v) w->Vb F n P md ops Q S sk (fuel+1) listed a w:=by
 intro fuel
 induction fuel with
 | zero =>
   intro listed a w _ hr _ hy hS H;refine ⟨fun h=>(by rw [h] at hr;cases hr),fun j hj=>?_⟩
   by_cases hji:j=i
   · subst hji;exact hy.wpOpIn hnd hi hS ⟨fun _=>hS,H⟩
   · have:=ready_mono hj hji;rw [H.1] at this;cases this
 | succ fuel ih =>
   intro listed a w hfree hr hwt hy hS H;refine ⟨fun h=>(by rw [h] at hr;cases hr),fun j hj=>?_⟩
   by_cases hji:j=i
   · subst hji;exact hy.wpOpIn hnd hi hS ⟨fun _=>hS,H⟩
   · have h1:=H.2 j (ready_mono hj hji);obtain ⟨hjun,oj,hoj,hall⟩:=mem_ready.1 hj
     have hnot:∀ e∈oj.after,Region.binds md e=true->e.on≠i:=fun e he hb heq=>by
      have h1:=hall e he hb;have h0:=(mem_ready.1 hr).1;rw [heq] at h1;rcases Nat.lt_or_ge i listed.size with h'|h'
      · simp [h'] at h0 h1;rw [h0] at h1;cases h1
      · simp [Array.getElem?_eq_none h'] at h1
     have h2:=Na hnd hoj (hfree j oj hoj hji hjun hnot) (fun cs b=>hsel i oi cs b hi) (fun cs b=>hsel j oj cs b hoj) hQ hy h1
     have hfree':∀ k ok,ops[k]?=some ok->k≠i->(listed.setIfInBounds j true).getD k true=false ->
      (∀ e∈ok.after,Region.binds md e=true->e.on≠i)->oi.apart ops ok=true:=fun k ok hk hki hun hno=>by
      refine hfree k ok hk hki ?_ hno
      by_cases hjk:j=k
      · subst hjk;exact hjun
      · rw [getD_set_ne true hjk] at hun;exact hun
     have hdj:dep.getD j false=false:=by
      cases hd:dep.getD j false with
      | false=>rfl
      | true =>
        obtain ⟨e,he,hb,hon|hon⟩:=hwt.why j oj hoj hd
        · exact absurd hon (hnot e he hb)
        · have h1:=hwt.un e.on (by simpa using hall e he hb);rw [h1] at hon;cases hon
     have hjs:j<sk:=Classical.byContradiction fun e=>by
      have h1:=hwt.far j oj hoj (by omega);rw [hdj] at h1;cases h1
     have zdl:vU md ops sk i (listed.setIfInBounds j true) dep:=⟨hwt.why,hwt.far,fun k hk=>by
      by_cases hjk:j=k
      · subst hjk;exact hdj
      · rw [getD_set_ne false hjk] at hk;exact hwt.un k hk⟩
     refine wpOpIn_mono (fun a' w' h3=>⟨h3.2.1,ih (listed.setIfInBounds j true) a' w' hfree' (ready_mono hr (Ne.symm hji)) zdl h3.1 (h3.2.1 hjs) ?_⟩) h2;rw [Array.setIfInBounds_comm _ _ hji];exact h3.2.2
theorem TV {i sk:Nat} {oi:Oper} {v:Value} {fuel:Nat} {listed:Array Bool} {a:Act} {w:World} (hnd:Us ops) (hi:ops[i]?=some oi)
 (hs:Region.noSelect ops=true) (hf:Region.free md ops listed i=true) (hr:(Region.ready md ops listed).contains i=true)
 (hQ:∀ c a w,Q (.panic c) (a.put oi.dst v) w->Q (.panic c) a w) (hsk:zK md ops sk i listed (zfx md ops i)=true) (hy:YH P ops S oi v a) (hS:S w)
 (h:Vb F n P md ops Q S sk fuel (listed.setIfInBounds i true) (a.put oi.dst v) w):Vb F n P md ops Q S sk (fuel+1) listed a w :=
 F4 hnd hi (Region.noSelect_spec hs) hQ (zfx md ops i) fuel listed a w (Region.free_spec hi hf) (by simpa using hr) (D5 hsk) hy hS h
theorem CF {i sk:Nat} {o:Oper} {fuel:Nat} {listed:Array Bool} {a:Act} {w:World} (hr:Region.ready md ops listed=[i]) (ho:ops[i]?=some o)
 (h:∀ K:Act->World->Prop,Shut (∀ a w,(i<sk->S w)->Vb F n P md ops Q S sk fuel (listed.setIfInBounds i true) a w->K a w)->if Region.wanted o (yielded ops a.tmps)=true then Oper.wpIn F n P o a w K Q else (∀ f,o.about P w a.eval=some f->F.fn f)/\K (a.put o.dst undef) w) :
 Vb F n P md ops Q S sk (fuel+1) listed a w :=
 ⟨fun h0=>(by rw [hr] at h0;cases h0),fun j hj=>by
   rw [hr] at hj;obtain rfl:j=i:=by simpa using hj
   exact wpOpIn_step ho (fun K' hK=>h K' (fun a w hS hW=>hK a w ⟨hS,hW⟩))⟩
theorem zvz{sk:Nat}{listed:Array Bool}{a:Act}{w:World}(hr:Region.ready md ops listed=[])(h:Q .normal a w):
 ∀ fuel,Vb F n P md ops Q S sk fuel listed a w
 | 0=>⟨hr,h⟩
 | _+1=>⟨fun _=>h,by rw [hr];simp⟩
theorem zvo (sk:Nat) {id:Nat} {a:Act} {w:World} (hm:P.follows .mixedOrders=true)
 (h:Vb F n P .any ops Q S sk ops.size (Array.replicate ops.size false) a w.drew):(Code.region id ops true).wpIn F n P Q a w :=
 wpIn_region_any hm (TW _ _ _ _ h)
theorem uY (sk:Nat) {id:Nat} {a:Act} {w:World} (hm:P.follows .mixedOrders=true)
 (h:Vb F n P .any ops (Qc (Q .normal)) S sk ops.size (Array.replicate ops.size false) a w.drew):(Code.region id ops true).wpIn F n P Q a w:=by
 refine wpIn_mono (zvo sk (Q:=Qc (Q .normal)) hm h) ?_;intro e a w he;cases e with
 | normal=>exact he
 | _=>exact he.elim
end
end
end Go.Proofs.YthnenedoblncjaaGreatDoor