/- ScopeB HdBase Payload Counts RefCounts -/
import Derived.BigQuiet
import Derived.Deep.QuietTactic
import Derived.RegionTactic
import Derived.ScopeJumps
import Derived.WalkMore
import Derived.Test.YtfljlmleiggmjaaGreatDoorPkC01
set_option maxRecDepth 1000000
set_option maxHeartbeats 8000000
namespace Go.Proofs.YtfljlmleiggmjaaGreatDoor
section
open Go.RowKit
def AtLabel (P:Program) (rest:Code) (Q:Exit→Act→World→Prop) (a:Act) (w:World):Prop:=rest.wp P (Exit.noGoto Q) a w
theorem wp_scope_fwd {P:Program} {c rest:Code} {Q:Exit→Act→World→Prop} {a:Act} {w:World} (l:Nat) (hf:findLabel c l=some rest)
 (first:c.wp P (Exit.jump l (AtLabel P rest Q) Q) a w):(Code.scope c).wp P Q a w :=
 wp_scope_jumps l (AtLabel P rest Q) (fun _ _=>0) hf first (fun _ _ hJ=>wp_mono hJ (fun e _ _ q=>by cases e <;> first | exact q | exact q.elim))
theorem jump_goto {l:Nat} {J:Act→World→Prop} {Q:Exit→Act→World→Prop} {a:Act} {w:World} (h:J a w):Exit.jump l J Q (.goto l) a w:=⟨rfl,h⟩
theorem jump_ret {l:Nat} {J:Act→World→Prop} {Q:Exit→Act→World→Prop} {a:Act} {w:World}:Exit.jump l J Q .ret a w=Q .ret a w:=rfl
theorem jump_normal {l:Nat} {J:Act→World→Prop} {Q:Exit→Act→World→Prop} {a:Act} {w:World}:Exit.jump l J Q .normal a w=Q .normal a w:=rfl
theorem jump_exit {l i:Nat} {J:Act→World→Prop} {Q:Exit→Act→World→Prop} {a:Act} {w:World}:Exit.jump l J Q (.exit i) a w=Q (.exit i) a w:=rfl
theorem jump_panic {l:Nat} {ch:List PanicEntry} {J:Act→World→Prop} {Q:Exit→Act→World→Prop} {a:Act} {w:World}:Exit.jump l J Q (.panic ch) a w=Q (.panic ch) a w:=rfl
attribute [go_sem] jump_ret jump_normal jump_exit jump_panic
def byCells (bs:List Int):List Value:=bs.map (Value.int .u8)
theorem byCells_length (bs:List Int):(byCells bs).length=bs.length:=by simp [byCells]
theorem Sl.by_ {w:World} {B:Nat} {A:Option Addr} {bs:List Int} (h:Sl w B A (byCells bs)) (hn:0<bs.length) :
 ∃ b off,A=some ⟨b,off,none⟩∧b<B∧∀ j x,bs[j]?=some x→w.cell? ⟨b,off+j,none⟩=some (.int .u8 x):=by
 obtain ⟨b,off,hA,hB,hc⟩:=h.open_ (by rw [byCells_length];exact hn)
 exact ⟨b,off,hA,hB,fun j x hx=>hc j _ (by simp [byCells,hx])⟩
end
section
open Go.RowKit
def hresp (op vs:Int) (rs:List Rg) (pts:Int):Int:=if hcheck op vs rs pts=0 then (if op=5 then 4+pts*9 else 2) else 0
def sumSize (rs:List Rg):Int:=(rs.map fun r=>sizeOfReg r.v).sum
theorem sizeOfReg_bd (v:Int):0≤sizeOfReg v∧sizeOfReg v≤64:=by
 unfold sizeOfReg
 split
 · omega
 · split <;> omega
theorem sumSize_bd (rs:List Rg):0≤sumSize rs∧sumSize rs≤64*rs.length:=by
 induction rs with
 | nil=>simp [sumSize]
 | cons r rs ih =>
   have:=sizeOfReg_bd r.v
   simp only [sumSize,List.map_cons,List.sum_cons,List.length_cons] at *
   omega
theorem sumSize_snoc (rs:List Rg) (k:Nat) (r:Rg) (h:rs[k]?=some r):sumSize (rs.take (k+1))=sumSize (rs.take k)+sizeOfReg r.v:=by
 rw [List.take_add_one,h];simp [sumSize]
def fixedOf (op:Int):Int:=if op=1 then 3 else if op=2 then 4 else if op=5 then 0 else 1
def hpay (op vs:Int) (rs:List Rg) (pts:Int):Int:=if hcheck op vs rs pts=0 then (fixedOf op+vs+sumSize rs)*16+pts*24 else 0
structure PH where
 op:Int
 vs:Int
 rs:List Rg
 pts:Int
def phZero:PH:=⟨0,0,[],0⟩
def rgOf (x:Int):Rg:=⟨decide (128≤x),x % 128,none,0,0⟩
def hparse (bs:List Int):PH × Int × Int :=
 if bs.length<1 then (phZero,0,4)
 else if bs.getD 0 0=1∨bs.getD 0 0=2 then (⟨bs.getD 0 0,0,[],0⟩,1,0)
 else if bs.getD 0 0<3∨5<bs.getD 0 0 then (phZero,0,5)
 else if bs.length<2 then (phZero,0,4)
 else if bs.getD 0 0=3 then (if bs.getD 1 0<3∨64<bs.getD 1 0 then (phZero,0,6) else (⟨3,bs.getD 1 0,[],0⟩,2,0))
 else if bs.getD 1 0<1∨64<bs.getD 1 0 then (phZero,0,6)
 else if (bs.length:Int)<2+bs.getD 1 0 then (phZero,0,4)
 else if (((bs.drop 2).take (bs.getD 1 0).toNat).map rgOf).any wrongRg=true then (phZero,0,7)
 else if bs.getD 0 0=4 then (⟨4,0,((bs.drop 2).take (bs.getD 1 0).toNat).map rgOf,0⟩,2+bs.getD 1 0,0)
 else if (bs.length:Int)<4+bs.getD 1 0 then (phZero,0,4)
 else if bs.getD (2+(bs.getD 1 0).toNat) 0+256*bs.getD (3+(bs.getD 1 0).toNat) 0<1∨4096<bs.getD (2+(bs.getD 1 0).toNat) 0+256*bs.getD (3+(bs.getD 1 0).toNat) 0 then (phZero,0,6)
 else (⟨5,0,((bs.drop 2).take (bs.getD 1 0).toNat).map rgOf,bs.getD (2+(bs.getD 1 0).toNat) 0+256*bs.getD (3+(bs.getD 1 0).toNat) 0⟩,4+bs.getD 1 0,0)
def hclass (bs:List Int):Int :=
 if (hparse bs).2.2=0 then (if (bs.length:Int)=(hparse bs).2.1+hpay (hparse bs).1.op (hparse bs).1.vs (hparse bs).1.rs (hparse bs).1.pts then 0 else 8) else (hparse bs).2.2
theorem ite_ok {α:Type} {P:α→Prop} {c:Prop} [Decidable c] {a b:α} (ha:c→P a) (hb:¬ c→P b):P (if c then a else b):=by
 by_cases h:c
 · rw [if_pos h];exact ha h
 · rw [if_neg h];exact hb h
def LenOk (bs:List Int) (r:PH × Int × Int):Prop:=r.1.rs.length≤bs.length∧0≤r.2.1∧r.2.1≤68
theorem hparse_lenOk (bs:List Int):LenOk bs (hparse bs):=by
 unfold hparse
 repeat' (refine ite_ok (fun _=>?_) (fun _=>?_))
 all_goals refine ⟨?_,?_,?_⟩
 all_goals simp only [phZero,List.length_map,List.length_take,List.length_drop,List.length_nil]
 all_goals omega
theorem hparse_len (bs:List Int):(hparse bs).1.rs.length≤bs.length:=(hparse_lenOk bs).1
theorem hparse_n (bs:List Int):0≤(hparse bs).2.1∧(hparse bs).2.1≤68:=(hparse_lenOk bs).2
theorem hpay_bd (op vs:Int) (rs:List Rg) (pts:Int):0≤hpay op vs rs pts∧hpay op vs rs pts≤200000:=by
 unfold hpay
 split
 · rename_i h
   obtain ⟨a,b,c,d,e,f,g,i,_⟩:=hcheck_zero h
   have hs:=sumSize_bd rs
   have hf:0≤fixedOf op∧fixedOf op≤4:=by unfold fixedOf;split <;> (try split) <;> (try split) <;> omega
   have hl:rs.length≤64:=by
    by_cases h4:4≤op
    · exact (e h4).2.1
    · rw [f (by omega)];simp
   have hv:0≤vs∧vs≤64:=by omega
   have hp:0≤pts∧pts≤4096:=by omega
   omega
 · omega
end
section
open Go.RowKit
def Fixed (w:World):Prop:=∀ j:Nat,j<6→w.cell? ⟨1,j,none⟩=some (.int .i64 ([0,3,4,1,1,0].getD j 0))
theorem Fixed.below {w w':World} (h:Fixed w) (hb:Below w.heap.size w w') (hg:1<w.heap.size):Fixed w':=fun j hj=>(hb.cell (p:=⟨1,j,none⟩) hg).trans (h j hj)
section
variable (vs:Int) (rs:List Rg) (A:Option Addr) (c:Nat) (pts:Int) (w:World)
variable (hs:Sl w w.heap.size A (rgCells rs)) (hn:rs.length≤maxLen)
include hs hn
variable (hfix:Fixed w) (hg:1<w.heap.size)
include hfix hg
theorem payload_any (op:Int) :
 Calls Tryz.prog 83 #[.agg #[.int .i64 op,.int .i64 vs,.slice A rs.length c,.int .i64 pts]] w fun e w'=>e=.returned (.int .i64 (hpay op vs rs pts))∧Below w.heap.size w w':=by
 have hs':=hide hs;clear hs
 have HF:=hide hfix;clear hfix
 go_enter Tryz.func83,Tryz.ntmps83
 go_wp2_with fail
 refine (check_any vs rs A c pts _ ((hs'.out.below (bA)).more (by simp)) hn op).mono ?_
 rintro e w1 ⟨rfl,hb⟩
 obtain ⟨hcl,hfr⟩:=bcell hb
 by_cases h0:hcheck op vs rs pts=0
 · have hz:=hcheck_zero h0
   rw [h0]
   have hsl:=(hs'.out.below (bl_step (bA) hb))
   have hcells:∀ j:Nat,j<6→w1.cell? ⟨1,j,none⟩=some (.int .i64 ([0,3,4,1,1,0].getD j 0)):=fun j hj=>((bl_step (bA) hb).cell (p:=⟨1,j,none⟩) hg).trans (HF.out j hj)
   have g1:=hcells 1 (by omega)
   have g2:=hcells 2 (by omega)
   have g3:=hcells 3 (by omega)
   have g4:=hcells 4 (by omega)
   have g5:=hcells 5 (by omega)
   clear hcells
   simp only [List.getD_cons_succ,List.getD_cons_zero] at g1 g2 g3 g4 g5
   obtain ⟨ha,hb',hc,hd,he,hf,hgg,hi,hj⟩:=hz
   have hspec:hpay op vs rs pts=(fixedOf op+vs+sumSize rs)*16+pts*24:=by unfold hpay;rw [if_pos h0]
   have H0:=hide h0;clear h0
   have hop:op=1∨op=2∨op=3∨op=4∨op=5:=by omega
   have HSP:=hide hspec;clear hspec
   have hbnd:rs.length≤64:=by
    by_cases h4:4≤op
    · exact (he h4).2.1
    · rw [hf (by omega)];simp
   have HE:=hide he;clear he
   have HFn:=hide hf;clear hf
   have hvb:0≤vs∧vs≤64:=by omega
   have hpb:0≤pts∧pts≤4096:=by omega
   clear hc hd hgg hi
   obtain ⟨hv1,hv2⟩:=hvb
   obtain ⟨hp1,hp2⟩:=hpb
   obtain ⟨X,hX⟩:∃ X,X=fixedOf op:=⟨_,rfl⟩
   have hXb:0≤X∧X≤4:=by rw [hX];unfold fixedOf;split <;> (try split) <;> (try split) <;> omega
   obtain ⟨hX1,hX2⟩:=hXb
   have HX:=hide hX;clear hX
   rcases hop with rfl | rfl | rfl | rfl | rfl
   all_goals
    go_wp2
    go_quiet (fail)
    go_wp2
    go_loopw [3,5,19] (fun t _ i wr=>∃ k:Nat,k≤rs.length∧i=.int .i64 k∧t=.int .i64 (X+vs+sumSize (rs.take k))∧Below w1.heap.size w1 wr)
     (fun _ _ i _=>rs.length - (intOf i).toNat)
    case atStart=>exact ⟨0,by omega,rfl,by rw [HX.out];simp [sumSize,fixedOf],below_drewN (Below.refl _ _) _⟩
    case round =>
     obtain ⟨k,hk,rfl,rfl,hbr⟩:=hrel
     have hsb:=sumSize_bd (rs.take k)
     rw [List.length_take,Nat.min_eq_left hk] at hsb
     obtain ⟨hsb1,hsb2⟩:=hsb
     by_cases hlt:k<rs.length
     · obtain ⟨r,hr⟩:∃ r,rs[k]?=some r:=⟨_,List.getElem?_eq_getElem hlt⟩
       obtain ⟨b,off,rfl,hB,c0,c1,c2⟩:=(hsl.below (hbr.mono (by have:=hb.size;simp at this;omega))).rg hr
       have hsn:=sumSize_snoc rs k r hr
       have hzb:=sizeOfReg_bd r.v
       obtain ⟨hzb1,hzb2⟩:=hzb
       have HR:=hide hr;clear hr
       have HN:=hide hsn;clear hsn
       go_wp2_with fail
       refine (size_any r.d r.v r.A r.n r.c _).mono ?_
       rintro e w2 ⟨rfl,hb2⟩
       go_wp2
       go_roundw
       case rel=>exact ⟨k+1,by omega,by go_num,by rw [HN.out];go_num,bl_step (bl_alloc hbr _) hb2⟩
       case measure=>simp [intOf];omega
     · have hk':k=rs.length:=by omega
       rw [hk',List.take_length] at hsb1 hsb2 ⊢
       clear hk' hlt hk
       obtain ⟨hcl2,hfr2⟩:=bcell hbr
       have hz1:=hb.size
       simp at hz1
       have hz2:w.heap.size<w1.heap.size:=by omega
       go_wp2
       go_ret
       exact ⟨ret_int (by rw [HSP.out,← HX.out]),bl_step (bl_step (bA) hb) hbr⟩
 · have hr:hpay op vs rs pts=0:=by unfold hpay;rw [if_neg h0]
   have h0':(hcheck op vs rs pts != 0)=true:=by simpa using h0
   generalize hcheck op vs rs pts=x at *
   have H0:=hide h0;clear h0
   have HR:=hide hr;clear hr
   go_wp2
   go_ret
   exact ⟨ret_int HR.out.symm,bl_step (bA) hb⟩
end
end
section
open Go.RowKit
def cntP (op vs:Int):Int:=if op=1 then 3 else if op=2 then 4 else if op=3 then vs+1 else if op=4 then 1 else 0
def cntQ (op pts:Int):Int:=if op=1∨op=2∨op=3∨op=4 then 0 else pts
section
variable (op vs pts:Int) (hA:Value) (w:World) (h0:-1000≤vs) (h1:vs≤1000)
include h0 h1
def CntOut (n m:Int) (w:World) (e:Ending) (w':World):Prop:=e=.returned (.tuple #[.int .i64 n,.int .i64 m])∧Below w.heap.size w w'
theorem counts_any (A:Option Addr) (n c:Nat):Calls Tryz.prog 100 #[.agg #[.int .i64 op,.int .i64 vs,.slice A n c,.int .i64 pts]] w (CntOut (cntP op vs) (cntQ op pts) w):=by
 by_cases e1:op=1
 · subst e1
   go_enter Tryz.func100,Tryz.ntmps100
   go_wp2
   go_ret2
   exact ⟨rfl,bA⟩
 by_cases e2:op=2
 · subst e2
   go_enter Tryz.func100,Tryz.ntmps100
   go_wp2
   go_ret2
   exact ⟨rfl,bA⟩
 by_cases e3:op=3
 · subst e3
   go_enter Tryz.func100,Tryz.ntmps100
   go_wp2
   go_ret2
   exact ⟨rfl,bA⟩
 by_cases e4:op=4
 · subst e4
   go_enter Tryz.func100,Tryz.ntmps100
   go_wp2
   go_ret2
   exact ⟨rfl,bA⟩
 · have hp:cntP op vs=0:=by unfold cntP;rw [if_neg e1,if_neg e2,if_neg e3,if_neg e4]
   have hq:cntQ op pts=pts:=by unfold cntQ;rw [if_neg (by omega)]
   rw [hp,hq]
   clear hp hq
   go_enter Tryz.func100,Tryz.ntmps100
   go_wp2
   go_quiet (fail)
   go_wp2
   go_ret2
   exact ⟨rfl,below_drewN (bA) _⟩
end
end
section
open Go.RowKit
section
variable (op vs pts:Int) (hA:Value) (w:World) (h0:-1000≤vs) (h1:vs≤1000)
include h0 h1
theorem rcounts_any (A:Option Addr) (n c:Nat):Calls Tryz.prog 79 #[.agg #[.int .i64 op,.int .i64 vs,.slice A n c,.int .i64 pts]] w (CntOut (cntP op vs) (cntQ op pts) w):=by
 by_cases e1:op=1
 · subst e1
   go_enter Tryz.func79,Tryz.ntmps79
   go_wp2
   go_ret2
   exact ⟨rfl,bA⟩
 by_cases e2:op=2
 · subst e2
   go_enter Tryz.func79,Tryz.ntmps79
   go_wp2
   go_ret2
   exact ⟨rfl,bA⟩
 by_cases e3:op=3
 · subst e3
   go_enter Tryz.func79,Tryz.ntmps79
   go_wp2
   go_ret2
   exact ⟨rfl,bA⟩
 by_cases e4:op=4
 · subst e4
   go_enter Tryz.func79,Tryz.ntmps79
   go_wp2
   go_ret2
   exact ⟨rfl,bA⟩
 · have hp:cntP op vs=0:=by unfold cntP;rw [if_neg e1,if_neg e2,if_neg e3,if_neg e4]
   have hq:cntQ op pts=pts:=by unfold cntQ;rw [if_neg (by omega)]
   rw [hp,hq]
   clear hp hq
   go_enter Tryz.func79,Tryz.ntmps79
   go_wp2
   go_quiet (fail)
   go_wp2
   go_ret2
   exact ⟨rfl,below_drewN (bA) _⟩
end
end
end Go.Proofs.YtfljlmleiggmjaaGreatDoor
