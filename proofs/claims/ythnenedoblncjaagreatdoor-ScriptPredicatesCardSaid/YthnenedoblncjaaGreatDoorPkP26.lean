/- SortB Exchange -/
import Derived.ChangeAlike
import Derived.Deep.CutBlock
import Derived.Test.YthnenedoblncjaaGreatDoorPkP23
import Derived.Test.YthnenedoblncjaaGreatDoorPkP25
set_option maxRecDepth 1000000
set_option maxHeartbeats 8000000
namespace Go.Proofs.YthnenedoblncjaaGreatDoor
section
open Go.RowKit
theorem rless_iff {x y:Int × Int} (hx:Cln x) (hy:Cln y):(decide (y.1<x.1) || (decide (x.1=y.1) && decide (x.2<y.2)))=decide (rkey x<rkey y):=by
 obtain ⟨a,b⟩:=x
 obtain ⟨c,d⟩:=y
 unfold rkey
 rcases hx with ⟨h1,h2,h3⟩ | h1 <;> rcases hy with ⟨k1,k2,k3⟩ | k1
 · dsimp only at *;subst h1;subst k1
   simp
   omega
 · cases k1;dsimp only at *;subst h1
   simp
   omega
 · cases h1;dsimp only at *;subst k1
   simp
   omega
 · cases h1;cases k1
   simp
theorem msk_or2 (a b:Bool):bits BinOp.or IntKind.u64 (msk a) (msk b)=msk (a || b):=by cases a <;> cases b <;> decide
abbrev LeS (w0:World) (s:Nat) (x1 x2 y1 y2:Int) (wk:World):Prop :=
 Below s w0 wk∧(wk.cell? ⟨s,0,none⟩=some (.int .u64 x1)∧wk.cell? ⟨s,1,none⟩=some (.int .u64 x2)∧wk.cell? ⟨s+1,0,none⟩=some (.int .u64 y1)∧wk.cell? ⟨s+1,1,none⟩=some (.int .u64 y2)) ∧
  wk.frozen? ⟨s,0,none⟩=false∧wk.frozen? ⟨s,1,none⟩=false∧wk.frozen? ⟨s+1,0,none⟩=false∧wk.frozen? ⟨s+1,1,none⟩=false
theorem LeS.keep {w0:World} {s:Nat} {x1 x2 y1 y2:Int} {wk w':World} (h:LeS w0 s x1 x2 y1 y2 wk) (hb:Below wk.heap.size wk w'):LeS w0 s x1 x2 y1 y2 w':=by
 have on:∀ {b o:Nat} {v:Value},wk.cell? ⟨b,o,none⟩=some v→w'.cell? ⟨b,o,none⟩=some v:=fun h=>(hb.cell (p:=⟨_,_,none⟩) (cell_lt h)).trans h
 obtain ⟨h0,⟨h1,h2,h3,h4⟩,f1,f2,f3,f4⟩:=h
 have l1:=cell_lt h1
 have l2:=cell_lt h3
 exact ⟨h0.trans (hb.mono (Nat.le_of_lt l1)),⟨on h1,on h2,on h3,on h4⟩,(hb.frozen (p:=⟨_,_,none⟩) l1).trans f1,(hb.frozen (p:=⟨_,_,none⟩) l1).trans f2,(hb.frozen (p:=⟨_,_,none⟩) l2).trans f3,(hb.frozen (p:=⟨_,_,none⟩) l2).trans f4⟩
theorem cell_same {w:World} {p:Addr} {v:Value} (h:w.cell? p=some v) (q:Addr):(w.setCell p v).cell? q=w.cell? q:=by
 by_cases hpq:p=q
 · subst hpq;rw [World.cell?_setCell_same _ _ _ h,h]
 · exact World.cell?_setCell_other _ _ _ _ hpq
theorem LeS.set2 {w0:World} {s b:Nat} {x1 x2 y1 y2:Int} {wk:World} {u v:Value} (h:LeS w0 s x1 x2 y1 y2 wk) (hb:s≤b) (h1:wk.cell? ⟨b,0,none⟩=some u) (h2:wk.cell? ⟨b,1,none⟩=some v):LeS w0 s x1 x2 y1 y2 ((wk.setCell ⟨b,0,none⟩ u).setCell ⟨b,1,none⟩ v):=by
 have e:∀ q,((wk.setCell ⟨b,0,none⟩ u).setCell ⟨b,1,none⟩ v).cell? q=wk.cell? q:=fun q=>by
  rw [cell_same (by rw [cell_same h1];exact h2),cell_same h1]
 have fz:∀ q,((wk.setCell ⟨b,0,none⟩ u).setCell ⟨b,1,none⟩ v).frozen? q=wk.frozen? q:=fun q=>by rw [World.frozen?_setCell,World.frozen?_setCell]
 obtain ⟨h0,⟨k1,k2,k3,k4⟩,f1,f2,f3,f4⟩:=h
 exact ⟨(h0.setCell hb _).setCell hb _,⟨by rw [e];exact k1,by rw [e];exact k2,by rw [e];exact k3,by rw [e];exact k4⟩,(fz _).trans f1,(fz _).trans f2,(fz _).trans f3,(fz _).trans f4⟩
theorem LeS.setx {w0:World} {s:Nat} {x1 x2 y1 y2:Int} {wk:World} (h:LeS w0 s x1 x2 y1 y2 wk):LeS w0 s x1 x2 y1 y2 ((wk.setCell ⟨s,0,none⟩ (.int .u64 x1)).setCell ⟨s,1,none⟩ (.int .u64 x2)) :=
 h.set2 (Nat.le_refl _) h.2.1.1 h.2.1.2.1
theorem LeS.sety {w0:World} {s:Nat} {x1 x2 y1 y2:Int} {wk:World} (h:LeS w0 s x1 x2 y1 y2 wk):LeS w0 s x1 x2 y1 y2 ((wk.setCell ⟨s+1,0,none⟩ (.int .u64 y1)).setCell ⟨s+1,1,none⟩ (.int .u64 y2)) :=
 h.set2 (Nat.le_succ _) h.2.1.2.2.1 h.2.1.2.2.2
abbrev LeT (w0:World) (s:Nat) (x1 x2 y1 y2:Int) (wk:World):Prop :=
 Below s w0 wk∧wk.cell? ⟨s,0,none⟩=some (.int .u64 x1)∧wk.cell? ⟨s,1,none⟩=some (.int .u64 x2)∧wk.cell? ⟨s+1,0,none⟩=some (.int .u64 y1)∧wk.cell? ⟨s+1,1,none⟩=some (.int .u64 y2)
theorem LeT.keep {w0:World} {s:Nat} {x1 x2 y1 y2:Int} {wk w':World} (h:LeT w0 s x1 x2 y1 y2 wk) (hb:Below wk.heap.size wk w'):LeT w0 s x1 x2 y1 y2 w':=by
 have on:∀ {b o:Nat} {v:Value},wk.cell? ⟨b,o,none⟩=some v→w'.cell? ⟨b,o,none⟩=some v:=fun h=>(hb.cell (p:=⟨_,_,none⟩) (cell_lt h)).trans h
 obtain ⟨h0,h1,h2,h3,h4⟩:=h
 exact ⟨h0.trans (hb.mono (Nat.le_of_lt (cell_lt h1))),on h1,on h2,on h3,on h4⟩
theorem sless_any (x y:Int × Int) (hx:Cln x) (hy:Cln y) (w:World):Calls Tryz.prog 312 #[.agg #[.int .u64 x.1,.int .u64 x.2],.agg #[.int .u64 y.1,.int .u64 y.2]] w fun e w'=>e=.returned (.int .u64 (msk (decide (rkey x<rkey y))))∧Below w.heap.size w w':=by
 have ux:U64 x.1∧U64 x.2:=by
  rcases hx with ⟨h1,h2,h3⟩ | h
  · exact ⟨by rw [h1];exact ⟨by decide,by decide⟩,h2,h3⟩
  · rw [h];exact ⟨⟨by decide,by decide⟩,by decide,by decide⟩
 have uy:U64 y.1∧U64 y.2:=by
  rcases hy with ⟨h1,h2,h3⟩ | h
  · exact ⟨by rw [h1];exact ⟨by decide,by decide⟩,h2,h3⟩
  · rw [h];exact ⟨⟨by decide,by decide⟩,by decide,by decide⟩
 have hl:=rless_iff hx hy
 have HCX:=hide (fun wk=>clean_any x.1 x.2 ux.1.1 ux.1.2 ux.2.1 ux.2.2 wk)
 have HCY:=hide (fun wk=>clean_any y.1 y.2 uy.1.1 uy.1.2 uy.2.1 uy.2.2 wk)
 rw [rcl_of hx] at HCX
 rw [rcl_of hy] at HCY
 have HL1:=hide (fun wk=>mless_any y.1 x.1 uy.1.1 uy.1.2 ux.1.1 ux.1.2 wk)
 have HE:=hide (fun wk=>equal_any x.1 y.1 ux.1.1 ux.1.2 uy.1.1 uy.1.2 wk)
 have HL2:=hide (fun wk=>mless_any x.2 y.2 ux.2.1 ux.2.2 uy.2.1 uy.2.2 wk)
 obtain ⟨K,hK⟩:∃ K,K=decide (rkey x<rkey y):=⟨_,rfl⟩
 rw [← hK] at hl ⊢
 obtain ⟨b1,hb1⟩:∃ b1,b1=decide (y.1<x.1):=⟨_,rfl⟩
 obtain ⟨b2,hb2⟩:∃ b2,b2=decide (x.1=y.1):=⟨_,rfl⟩
 obtain ⟨b3,hb3⟩:∃ b3,b3=decide (x.2<y.2):=⟨_,rfl⟩
 rw [← hb1,← hb2,← hb3] at hl
 rw [← hb1] at HL1
 rw [← hb2] at HE
 rw [← hb3] at HL2
 have ha:=msk_and b2 b3
 have ho:=msk_or2 b1 (b2 && b3)
 rw [hl] at ho
 clear hK hb1 hb2 hb3 hl ux uy hx hy
 obtain ⟨x1,x2⟩:=x
 obtain ⟨y1,y2⟩:=y
 dsimp only at *
 obtain ⟨s,hs⟩:∃ s,s=w.heap.size:=⟨_,rfl⟩
 obtain ⟨w0,hw0⟩:∃ w0,w0=(w.alloc (.cells #[.int .u64 x1,.int .u64 x2] 148)).alloc (.cells #[.int .u64 y1,.int .u64 y2] 148):=⟨_,rfl⟩
 have hb0:Below w.heap.size w w0:=by rw [hw0];exact bl_alloc (bA) _
 have X0:Blk w0 s 148 #[.int .u64 x1,.int .u64 x2]:=by rw [hw0,hs];exact (Blk.new _ _ _).alloc _
 have Y0:Blk w0 (s+1) 148 #[.int .u64 y1,.int .u64 y2]:=by rw [hw0,hs];exact Blk.new2 _ _ _ _
 have h00:LeS w s x1 x2 y1 y2 w0:=⟨by rw [hs];exact hb0,⟨X0.cell (i:=0) rfl,X0.cell (i:=1) rfl,Y0.cell (i:=0) rfl,Y0.cell (i:=1) rfl⟩,X0.frozen 0,X0.frozen 1,Y0.frozen 0,Y0.frozen 1⟩
 have hd0:=h00.keep (bl_drew (Below.refl _ _))
 go_enter Tryz.func312,Tryz.ntmps312
 go_wp2
 rw [← hw0,← hs]
 have HW0:=hide hw0
 have HS:=hide hs
 clear hw0 hs hb0 X0 Y0
 go_region_held3 (fun w'=>Below s w w'∧(w'.cell? ⟨s,0,none⟩=some (.int .u64 x1)∧w'.cell? ⟨s,1,none⟩=some (.int .u64 x2)∧w'.cell? ⟨s+1,0,none⟩=some (.int .u64 y1)∧w'.cell? ⟨s+1,1,none⟩=some (.int .u64 y2))∧w'.frozen? ⟨s,0,none⟩=false∧w'.frozen? ⟨s,1,none⟩=false∧w'.frozen? ⟨s+1,0,none⟩=false∧w'.frozen? ⟨s+1,1,none⟩=false)
  (first | with_reducible exact hd0 | with_reducible exact h00 | with_reducible exact LeS.setx (by assumption) | with_reducible exact LeS.sety (by assumption) | with_reducible exact LeS.keep (by assumption) (by assumption) | with_reducible exact hd0.keep (by assumption))
  (first
    | (go_at_call 276;((with_reducible refine (HCX.out _).mono ?_);rintro e w' ⟨rfl,hb1⟩))
    | (go_at_call 276;((with_reducible refine (HCY.out _).mono ?_);rintro e w' ⟨rfl,hb2⟩)))
 all_goals
  rename_i hHeldL
  obtain ⟨h5,⟨z0,z1,z2,z3⟩,f0,f1,f2,f3⟩:=hHeldL
  clear hb1 hb2 h00 hd0 HCX HCY f0 f1 f2 f3
  obtain ⟨w3,hw3⟩:∃ w3,w3=(((w'.setCell ⟨s,0,none⟩ (.int .u64 x1)).setCell ⟨s,1,none⟩ (.int .u64 x2)).setCell ⟨s+1,0,none⟩ (.int .u64 y1)).setCell ⟨s+1,1,none⟩ (.int .u64 y2):=⟨_,rfl⟩
  rw [← hw3] at h5 z0 z1 z2 z3 ⊢
  clear hw3
  go_wp2
  have h03:LeT w s x1 x2 y1 y2 w3:=⟨h5,z0,z1,z2,z3⟩
  have h13:=h03.keep (bl_drew (Below.refl _ _))
  go_region_held3 (fun w'=>Below s w w'∧w'.cell? ⟨s,0,none⟩=some (.int .u64 x1)∧w'.cell? ⟨s,1,none⟩=some (.int .u64 x2)∧w'.cell? ⟨s+1,0,none⟩=some (.int .u64 y1)∧w'.cell? ⟨s+1,1,none⟩=some (.int .u64 y2))
   (first | with_reducible exact h13 | with_reducible exact h03 | with_reducible assumption)
   (first
     | (go_at_call 341;((with_reducible refine (HL1.out _).mono ?_);rintro e w' ⟨rfl,rfl⟩))
     | (go_at_call 341;((with_reducible refine (HL2.out _).mono ?_);rintro e w' ⟨rfl,rfl⟩))
     | (go_at_call 260;((with_reducible refine (HE.out _).mono ?_);rintro e w' ⟨rfl,rfl⟩)))
  go_wp2
  go_ret
  refine ⟨rfl,?_⟩
  rw [← HS.out]
  exact below_drewN h5 _
end
section
open Go.RowKit
def ExP (w:World) (g:Nat) (t:TypeId) (cs:Array Value) (o1 o2:Nat) (u1 u2:Value) (w':World):Prop :=
 ∃ cs':Array Value,Blk w' g t cs'∧cs'.size=cs.size∧cs'[o1]?=some u1∧cs'[o2]?=some u2∧(∀ j,j≠o1→j≠o2→cs'[j]?=cs[j]?)∧w.grownBy w' (some g)
theorem grown_set (w:World) (g o:Nat) (u:Value):w.grownBy (w.setCell ⟨g,o,none⟩ u) (some g) :=
 ⟨rfl,rfl,rfl,Nat.le_of_eq (World.size_setCell ..).symm,fun k _ hk=>Below.heap_setCell w ⟨g,o,none⟩ u k (fun e=>hk (by rw [e]))⟩
theorem grown_drew1 {a b:World} {row:Option Nat} (h:a.grownBy b row):a.grownBy b.drew row:=⟨h.os,h.tape,h.output,h.size,h.block⟩
theorem grown_below {a b:World} {g:Nat} (h:Below a.heap.size a b):a.grownBy b (some g):=⟨h.os,h.tape,h.output,h.size,fun i hi _=>h.block i hi⟩
theorem ExP.ab {w:World} {g:Nat} {t:TypeId} {cs:Array Value} {o1 o2:Nat} (h:Blk w g t cs) (h1:o1<cs.size) (h2:o2<cs.size) (hne:o1≠o2) (u1 u2:Value):ExP w g t cs o1 o2 u1 u2 ((w.setCell ⟨g,o1,none⟩ u1).setCell ⟨g,o2,none⟩ u2).drew:=by
 refine ⟨_,((h.set o1 u1).set o2 u2).drew,by simp,?_,?_,fun j n1 n2=>?_,?_⟩
 · rw [Array.getElem?_setIfInBounds,if_neg (Ne.symm hne),Array.getElem?_setIfInBounds,if_pos rfl,if_pos h1]
 · rw [Array.getElem?_setIfInBounds,if_pos rfl,if_pos (by simpa using h2)]
 · rw [Array.getElem?_setIfInBounds,if_neg (Ne.symm n2),Array.getElem?_setIfInBounds,if_neg (Ne.symm n1)]
 · exact grown_drew1 ((grown_set _ _ _ _).trans (grown_set _ _ _ _))
theorem ExP.ba {w:World} {g:Nat} {t:TypeId} {cs:Array Value} {o1 o2:Nat} (h:Blk w g t cs) (h1:o1<cs.size) (h2:o2<cs.size) (hne:o1≠o2) (u1 u2:Value):ExP w g t cs o1 o2 u1 u2 ((w.setCell ⟨g,o2,none⟩ u2).setCell ⟨g,o1,none⟩ u1).drew:=by
 obtain ⟨cs',a1,a2,a3,a4,a5,a6⟩:=ExP.ab h h2 h1 (Ne.symm hne) u2 u1
 exact ⟨cs',a1,a2,a4,a3,fun j n1 n2=>a5 j n2 n1,a6⟩
def ExQ (w:World) (g:Nat) (t:TypeId) (cs:Array Value) (o1 o2:Nat) (l h:Int × Int) (w':World):Prop :=
 ∃ cs':Array Value,Blk w' g t cs'∧cs'.size=cs.size∧cs'[o1]?=some (.int .u64 l.1)∧cs'[o1+1]?=some (.int .u64 l.2) ∧
   cs'[o2]?=some (.int .u64 h.1)∧cs'[o2+1]?=some (.int .u64 h.2)∧(∀ j,j≠o1→j≠o1+1→j≠o2→j≠o2+1→cs'[j]?=cs[j]?)∧w.grownBy w' (some g)
theorem ExQ.of {w wc wd wx:World} {g:Nat} {t:TypeId} {cs cs1:Array Value} {o1 o2:Nat} {l h:Int × Int} (hne:o1+1<o2∨o2+1<o1) (hb:Below w.heap.size w wc) (hg:wc.grownBy wd (some g)) (hs:cs1.size=cs.size)
 (e1:cs1[o1]?=some (.int .u64 l.1)) (e2:cs1[o2]?=some (.int .u64 h.1)) (e3:∀ j,j≠o1→j≠o2→cs1[j]?=cs[j]?) (hx:ExP wd g t cs1 (o1+1) (o2+1) (.int .u64 l.2) (.int .u64 h.2) wx):ExQ w g t cs o1 o2 l h wx:=by
 obtain ⟨cs2,B,s2,a1,a2,a3,hg2⟩:=hx
 exact ⟨cs2,B,s2.trans hs,(a3 _ (by omega) (by omega)).trans e1,a1,(a3 _ (by omega) (by omega)).trans e2,a2,fun j n1 n2 n3 n4=>(a3 j n2 n4).trans (e3 j n1 n3),(grown_below hb).trans (hg.trans hg2)⟩
section
variable (g:Nat) (t:TypeId) (cs:Array Value) (o1 o2:Nat) (x y:Int × Int) (hx:Cln x) (hy:Cln y) (w:World)
variable (hb:Blk w g t cs) (c1:cs[o1]?=some (.int .u64 x.1)) (c2:cs[o1+1]?=some (.int .u64 x.2)) (c3:cs[o2]?=some (.int .u64 y.1)) (c4:cs[o2+1]?=some (.int .u64 y.2)) (hne:o1+1<o2∨o2+1<o1)
include hx hy hb c1 c2 c3 c4 hne
theorem exchange_any:Calls Tryz.prog 279 #[.pointer (some ⟨g,o1,none⟩),.pointer (some ⟨g,o2,none⟩)] w fun e w'=>e=.returned (.tuple #[])∧ExQ w g t cs o1 o2 (if rkey y<rkey x then y else x) (if rkey y<rkey x then x else y) w':=by
 have ux:U64 x.1∧U64 x.2:=by
  rcases hx with ⟨h1,h2,h3⟩ | h
  · exact ⟨by rw [h1];exact ⟨by decide,by decide⟩,h2,h3⟩
  · rw [h];exact ⟨⟨by decide,by decide⟩,by decide,by decide⟩
 have uy:U64 y.1∧U64 y.2:=by
  rcases hy with ⟨h1,h2,h3⟩ | h
  · exact ⟨by rw [h1];exact ⟨by decide,by decide⟩,h2,h3⟩
  · rw [h];exact ⟨⟨by decide,by decide⟩,by decide,by decide⟩
 have HL:=hide (fun wk=>sless_any y x hy hx wk)
 obtain ⟨m,hm⟩:∃ m,m=decide (rkey y<rkey x):=⟨_,rfl⟩
 rw [← hm] at HL
 have eL:(if rkey y<rkey x then y else x)=(bif m then y.1 else x.1,bif m then y.2 else x.2):=by by_cases hk:rkey y<rkey x <;> simp [hm,hk]
 have eH:(if rkey y<rkey x then x else y)=(bif m then x.1 else y.1,bif m then x.2 else y.2):=by by_cases hk:rkey y<rkey x <;> simp [hm,hk]
 rw [eL,eH]
 clear eL eH
 have HS1:=hide (fun wk=>swap_any m x.1 y.1 ux.1.1 ux.1.2 uy.1.1 uy.1.2 wk)
 have HS2:=hide (fun wk=>swap_any m x.2 y.2 ux.2.1 ux.2.2 uy.2.1 uy.2.2 wk)
 clear hm ux uy hx hy
 obtain ⟨x1,x2⟩:=x
 obtain ⟨y1,y2⟩:=y
 dsimp only at *
 obtain ⟨l1,hl1⟩:∃ l1,l1=bif m then y1 else x1:=⟨_,rfl⟩
 obtain ⟨h1,hh1⟩:∃ h1,h1=bif m then x1 else y1:=⟨_,rfl⟩
 obtain ⟨l2,hl2⟩:∃ l2,l2=bif m then y2 else x2:=⟨_,rfl⟩
 obtain ⟨h2,hh2⟩:∃ h2,h2=bif m then x2 else y2:=⟨_,rfl⟩
 rw [← hl1,← hh1] at HS1 ⊢
 rw [← hl2,← hh2] at HS2 ⊢
 clear hl1 hh1 hl2 hh2
 have n1:¬ o1=o2:=by omega
 have n2:¬ o1+1=o2+1:=by omega
 have lt1:o1<cs.size:=by have:=(Array.getElem?_eq_some_iff.1 c1).1;exact this
 have lt2:o1+1<cs.size:=by have:=(Array.getElem?_eq_some_iff.1 c2).1;exact this
 have lt3:o2<cs.size:=by have:=(Array.getElem?_eq_some_iff.1 c3).1;exact this
 have lt4:o2+1<cs.size:=by have:=(Array.getElem?_eq_some_iff.1 c4).1;exact this
 have z1:=hb.cell c1
 have z2:=hb.cell c2
 have z3:=hb.cell c3
 have z4:=hb.cell c4
 have h00:Below w.heap.size w w∧w.cell? ⟨g,o1,none⟩=some (.int .u64 x1)∧w.cell? ⟨g,o1+1,none⟩=some (.int .u64 x2)∧w.cell? ⟨g,o2,none⟩=some (.int .u64 y1)∧w.cell? ⟨g,o2+1,none⟩=some (.int .u64 y2):=⟨Below.refl _ _,z1,z2,z3,z4⟩
 have h10:Below w.heap.size w w.drew∧w.drew.cell? ⟨g,o1,none⟩=some (.int .u64 x1)∧w.drew.cell? ⟨g,o1+1,none⟩=some (.int .u64 x2)∧w.drew.cell? ⟨g,o2,none⟩=some (.int .u64 y1)∧w.drew.cell? ⟨g,o2+1,none⟩=some (.int .u64 y2):=⟨bl_drew (Below.refl _ _),z1,z2,z3,z4⟩
 have HK:Hid (∀ w',Below w.drew.heap.size w.drew w'→Below w.heap.size w w'∧w'.cell? ⟨g,o1,none⟩=some (.int .u64 x1)∧w'.cell? ⟨g,o1+1,none⟩=some (.int .u64 x2)∧w'.cell? ⟨g,o2,none⟩=some (.int .u64 y1)∧w'.cell? ⟨g,o2+1,none⟩=some (.int .u64 y2)):=hide fun w' k=>by
  have B:=hb.drew.step k
  exact ⟨below_of_drew k,B.cell c1,B.cell c2,B.cell c3,B.cell c4⟩
 have HBB:=hide hb;have C1:=hide c1;have C2:=hide c2;have C3:=hide c3;have C4:=hide c4;have LT:=hide (And.intro lt1 (And.intro lt2 (And.intro lt3 lt4)));have HNE:=hide hne
 clear hb c1 c2 c3 c4 lt1 lt2 lt3 lt4 hne z1 z2 z3 z4
 go_enter Tryz.func279,Tryz.ntmps279
 go_upto_region 0 with fail
 go_cut [4] from 4 to 11 (fun u wc=>u=.int .u64 (msk m)∧Below w.heap.size w wc)
 · go_region_held3 (fun w'=>Below w.heap.size w w'∧w'.cell? ⟨g,o1,none⟩=some (.int .u64 x1)∧w'.cell? ⟨g,o1+1,none⟩=some (.int .u64 x2)∧w'.cell? ⟨g,o2,none⟩=some (.int .u64 y1)∧w'.cell? ⟨g,o2+1,none⟩=some (.int .u64 y2))
    (first | with_reducible exact h10 | with_reducible exact h00 | with_reducible assumption | exact HK.out _ (by assumption))
    (first | (go_at_call 312;((with_reducible refine (HL.out _).mono ?_);rintro e w' ⟨rfl,hb1⟩)))
   all_goals
    go_wp2_with fail
    go_meet
    exact ⟨rfl,below_of_drew hb1⟩
 · obtain ⟨rfl,hbc⟩:=hcut
   have B1:=HBB.out.step hbc
   obtain ⟨lt1,lt2,lt3,lt4⟩:=LT.out
   have z1:=B1.cell C1.out
   have z3:=B1.cell C3.out
   have f1:=B1.frozen o1
   have f3:=B1.frozen o2
   have HB1:=hide B1;have HBC:=hide hbc
   clear B1 hbc h00 h10 lt1 lt2 lt3 lt4
   go_upto_region 1 with fail
   go_cut [12] from 12 to 30 (fun _ wd=>ExP wc g t cs o1 o2 (.int .u64 l1) (.int .u64 h1) wd)
   · go_region_with (first | (go_at_call 313;refine (HS1.out _).mono ?_;rintro e w1 ⟨rfl,rfl⟩))
     all_goals
      go_wp2_with fail
      go_meet
      first
       | exact ExP.ab HB1.out LT.out.1 LT.out.2.2.1 n1 _ _
       | exact ExP.ba HB1.out LT.out.1 LT.out.2.2.1 n1 _ _
   · obtain ⟨cs1,B2,hs1,e1,e2,e3,hg1⟩:=hcut
     have k2:cs1[o1+1]?=some (.int .u64 x2):=(e3 _ (by omega) (by have:=HNE.out;omega)).trans C2.out
     have k4:cs1[o2+1]?=some (.int .u64 y2):=(e3 _ (by have:=HNE.out;omega) (by omega)).trans C4.out
     have z2:=B2.cell k2
     have z4:=B2.cell k4
     have f2:=B2.frozen (o1+1)
     have f4:=B2.frozen (o2+1)
     have HB2:=hide B2;have E1:=hide e1;have E2:=hide e2;have E3:=hide e3;have HG:=hide hg1;have HS:=hide hs1
     clear B2 e1 e2 e3 hg1 hs1 k2 k4 z1 z3 f1 f3
     go_wp2_with fail
     go_region_with (first | (go_at_call 313;refine (HS2.out _).mono ?_;rintro e w1 ⟨rfl,rfl⟩))
     all_goals
      go_wp2
      go_end0
      refine ⟨rfl,?_⟩
      first
       | exact ExQ.of HNE.out HBC.out HG.out HS.out E1.out E2.out E3.out (ExP.ab HB2.out (by rw [HS.out];exact LT.out.2.1) (by rw [HS.out];exact LT.out.2.2.2) n2 _ _)
       | exact ExQ.of HNE.out HBC.out HG.out HS.out E1.out E2.out E3.out (ExP.ba HB2.out (by rw [HS.out];exact LT.out.2.1) (by rw [HS.out];exact LT.out.2.2.2) n2 _ _)
end
end
end Go.Proofs.YthnenedoblncjaaGreatDoor
