/- HdBase Payload Format -/
import Derived.ChangeAlike
import Derived.RegionTactic
import Derived.ScopeJumps
import Derived.WalkMore
import Derived.Test.YtfljlmleiggmjaaGreatDoorPkB00
set_option maxRecDepth 1000000
set_option maxHeartbeats 8000000
namespace Go.Proofs.YtfljlmleiggmjaaGreatDoor
section
open Go.RowKit
def hresp (op vs:Int) (rs:List Rg) (pts:Int):Int:=if hcheck op vs rs pts=0 then (if op=5 then 4+pts*9 else 2) else 0
def sumSize (rs:List Rg):Int:=(rs.map fun r=>sizeOfReg r.v).sum
theorem sizeOfReg_bd (v:Int):0≤sizeOfReg v∧sizeOfReg v≤64:=by
 unfold sizeOfReg
 split
 · omega
 · split <;> omega
theorem sumSize_bd (rs:List Rg):0≤sumSize rs∧sumSize rs≤64*rs.length:=by
 induction rs with
 | nil=>simp [sumSize]
 | cons r rs ih =>
   have:=sizeOfReg_bd r.v
   simp only [sumSize,List.map_cons,List.sum_cons,List.length_cons] at *
   omega
theorem sumSize_snoc (rs:List Rg) (k:Nat) (r:Rg) (h:rs[k]?=some r):sumSize (rs.take (k+1))=sumSize (rs.take k)+sizeOfReg r.v:=by
 rw [List.take_add_one,h];simp [sumSize]
def fixedOf (op:Int):Int:=if op=1 then 3 else if op=2 then 4 else if op=5 then 0 else 1
def hpay (op vs:Int) (rs:List Rg) (pts:Int):Int:=if hcheck op vs rs pts=0 then (fixedOf op+vs+sumSize rs)*16+pts*24 else 0
structure PH where
 op:Int
 vs:Int
 rs:List Rg
 pts:Int
def phZero:PH:=⟨0,0,[],0⟩
def rgOf (x:Int):Rg:=⟨decide (128≤x),x % 128,none,0,0⟩
def hparse (bs:List Int):PH × Int × Int :=
 if bs.length<1 then (phZero,0,4)
 else if bs.getD 0 0=1∨bs.getD 0 0=2 then (⟨bs.getD 0 0,0,[],0⟩,1,0)
 else if bs.getD 0 0<3∨5<bs.getD 0 0 then (phZero,0,5)
 else if bs.length<2 then (phZero,0,4)
 else if bs.getD 0 0=3 then (if bs.getD 1 0<3∨64<bs.getD 1 0 then (phZero,0,6) else (⟨3,bs.getD 1 0,[],0⟩,2,0))
 else if bs.getD 1 0<1∨64<bs.getD 1 0 then (phZero,0,6)
 else if (bs.length:Int)<2+bs.getD 1 0 then (phZero,0,4)
 else if (((bs.drop 2).take (bs.getD 1 0).toNat).map rgOf).any wrongRg=true then (phZero,0,7)
 else if bs.getD 0 0=4 then (⟨4,0,((bs.drop 2).take (bs.getD 1 0).toNat).map rgOf,0⟩,2+bs.getD 1 0,0)
 else if (bs.length:Int)<4+bs.getD 1 0 then (phZero,0,4)
 else if bs.getD (2+(bs.getD 1 0).toNat) 0+256*bs.getD (3+(bs.getD 1 0).toNat) 0<1∨4096<bs.getD (2+(bs.getD 1 0).toNat) 0+256*bs.getD (3+(bs.getD 1 0).toNat) 0 then (phZero,0,6)
 else (⟨5,0,((bs.drop 2).take (bs.getD 1 0).toNat).map rgOf,bs.getD (2+(bs.getD 1 0).toNat) 0+256*bs.getD (3+(bs.getD 1 0).toNat) 0⟩,4+bs.getD 1 0,0)
def hclass (bs:List Int):Int :=
 if (hparse bs).2.2=0 then (if (bs.length:Int)=(hparse bs).2.1+hpay (hparse bs).1.op (hparse bs).1.vs (hparse bs).1.rs (hparse bs).1.pts then 0 else 8) else (hparse bs).2.2
theorem ite_ok {α:Type} {P:α→Prop} {c:Prop} [Decidable c] {a b:α} (ha:c→P a) (hb:¬ c→P b):P (if c then a else b):=by
 by_cases h:c
 · rw [if_pos h];exact ha h
 · rw [if_neg h];exact hb h
def LenOk (bs:List Int) (r:PH × Int × Int):Prop:=r.1.rs.length≤bs.length∧0≤r.2.1∧r.2.1≤68
theorem hparse_lenOk (bs:List Int):LenOk bs (hparse bs):=by
 unfold hparse
 repeat' (refine ite_ok (fun _=>?_) (fun _=>?_))
 all_goals refine ⟨?_,?_,?_⟩
 all_goals simp only [phZero,List.length_map,List.length_take,List.length_drop,List.length_nil]
 all_goals omega
theorem hparse_len (bs:List Int):(hparse bs).1.rs.length≤bs.length:=(hparse_lenOk bs).1
theorem hparse_n (bs:List Int):0≤(hparse bs).2.1∧(hparse bs).2.1≤68:=(hparse_lenOk bs).2
theorem hpay_bd (op vs:Int) (rs:List Rg) (pts:Int):0≤hpay op vs rs pts∧hpay op vs rs pts≤200000:=by
 unfold hpay
 split
 · rename_i h
   obtain ⟨a,b,c,d,e,f,g,i,_⟩:=hcheck_zero h
   have hs:=sumSize_bd rs
   have hf:0≤fixedOf op∧fixedOf op≤4:=by unfold fixedOf;split <;> (try split) <;> (try split) <;> omega
   have hl:rs.length≤64:=by
    by_cases h4:4≤op
    · exact (e h4).2.1
    · rw [f (by omega)];simp
   have hv:0≤vs∧vs≤64:=by omega
   have hp:0≤pts∧pts≤4096:=by omega
   omega
 · omega
end
section
open Go.RowKit
def Fixed (w:World):Prop:=∀ j:Nat,j<6→w.cell? ⟨1,j,none⟩=some (.int .i64 ([0,3,4,1,1,0].getD j 0))
theorem Fixed.below {w w':World} (h:Fixed w) (hb:Below w.heap.size w w') (hg:1<w.heap.size):Fixed w':=fun j hj=>(hb.cell (p:=⟨1,j,none⟩) hg).trans (h j hj)
section
variable (vs:Int) (rs:List Rg) (A:Option Addr) (c:Nat) (pts:Int) (w:World)
variable (hs:Sl w w.heap.size A (rgCells rs)) (hn:rs.length≤maxLen)
include hs hn
variable (hfix:Fixed w) (hg:1<w.heap.size)
include hfix hg
theorem payload_any (op:Int) :
 Calls Tryz.prog 83 #[.agg #[.int .i64 op,.int .i64 vs,.slice A rs.length c,.int .i64 pts]] w fun e w'=>e=.returned (.int .i64 (hpay op vs rs pts))∧Below w.heap.size w w':=by
 have hs':=hide hs;clear hs
 have HF:=hide hfix;clear hfix
 go_enter Tryz.func83,Tryz.ntmps83
 go_wp2_with fail
 refine (check_any vs rs A c pts _ ((hs'.out.below (bA)).more (by simp)) hn op).mono ?_
 rintro e w1 ⟨rfl,hb⟩
 obtain ⟨hcl,hfr⟩:=bcell hb
 by_cases h0:hcheck op vs rs pts=0
 · have hz:=hcheck_zero h0
   rw [h0]
   have hsl:=(hs'.out.below (bl_step (bA) hb))
   have hcells:∀ j:Nat,j<6→w1.cell? ⟨1,j,none⟩=some (.int .i64 ([0,3,4,1,1,0].getD j 0)):=fun j hj=>((bl_step (bA) hb).cell (p:=⟨1,j,none⟩) hg).trans (HF.out j hj)
   have g1:=hcells 1 (by omega)
   have g2:=hcells 2 (by omega)
   have g3:=hcells 3 (by omega)
   have g4:=hcells 4 (by omega)
   have g5:=hcells 5 (by omega)
   clear hcells
   simp only [List.getD_cons_succ,List.getD_cons_zero] at g1 g2 g3 g4 g5
   obtain ⟨ha,hb',hc,hd,he,hf,hgg,hi,hj⟩:=hz
   have hspec:hpay op vs rs pts=(fixedOf op+vs+sumSize rs)*16+pts*24:=by unfold hpay;rw [if_pos h0]
   have H0:=hide h0;clear h0
   have hop:op=1∨op=2∨op=3∨op=4∨op=5:=by omega
   have HSP:=hide hspec;clear hspec
   have hbnd:rs.length≤64:=by
    by_cases h4:4≤op
    · exact (he h4).2.1
    · rw [hf (by omega)];simp
   have HE:=hide he;clear he
   have HFn:=hide hf;clear hf
   have hvb:0≤vs∧vs≤64:=by omega
   have hpb:0≤pts∧pts≤4096:=by omega
   clear hc hd hgg hi
   obtain ⟨hv1,hv2⟩:=hvb
   obtain ⟨hp1,hp2⟩:=hpb
   obtain ⟨X,hX⟩:∃ X,X=fixedOf op:=⟨_,rfl⟩
   have hXb:0≤X∧X≤4:=by rw [hX];unfold fixedOf;split <;> (try split) <;> (try split) <;> omega
   obtain ⟨hX1,hX2⟩:=hXb
   have HX:=hide hX;clear hX
   rcases hop with rfl | rfl | rfl | rfl | rfl
   all_goals
    go_wp2
    go_quiet (fail)
    go_wp2
    go_loopw [3,5,19] (fun t _ i wr=>∃ k:Nat,k≤rs.length∧i=.int .i64 k∧t=.int .i64 (X+vs+sumSize (rs.take k))∧Below w1.heap.size w1 wr)
     (fun _ _ i _=>rs.length - (intOf i).toNat)
    case atStart=>exact ⟨0,by omega,rfl,by rw [HX.out];simp [sumSize,fixedOf],below_drewN (Below.refl _ _) _⟩
    case round =>
     obtain ⟨k,hk,rfl,rfl,hbr⟩:=hrel
     have hsb:=sumSize_bd (rs.take k)
     rw [List.length_take,Nat.min_eq_left hk] at hsb
     obtain ⟨hsb1,hsb2⟩:=hsb
     by_cases hlt:k<rs.length
     · obtain ⟨r,hr⟩:∃ r,rs[k]?=some r:=⟨_,List.getElem?_eq_getElem hlt⟩
       obtain ⟨b,off,rfl,hB,c0,c1,c2⟩:=(hsl.below (hbr.mono (by have:=hb.size;simp at this;omega))).rg hr
       have hsn:=sumSize_snoc rs k r hr
       have hzb:=sizeOfReg_bd r.v
       obtain ⟨hzb1,hzb2⟩:=hzb
       have HR:=hide hr;clear hr
       have HN:=hide hsn;clear hsn
       go_wp2_with fail
       refine (size_any r.d r.v r.A r.n r.c _).mono ?_
       rintro e w2 ⟨rfl,hb2⟩
       go_wp2
       go_roundw
       case rel=>exact ⟨k+1,by omega,by go_num,by rw [HN.out];go_num,bl_step (bl_alloc hbr _) hb2⟩
       case measure=>simp [intOf];omega
     · have hk':k=rs.length:=by omega
       rw [hk',List.take_length] at hsb1 hsb2 ⊢
       clear hk' hlt hk
       obtain ⟨hcl2,hfr2⟩:=bcell hbr
       have hz1:=hb.size
       simp at hz1
       have hz2:w.heap.size<w1.heap.size:=by omega
       go_wp2
       go_ret
       exact ⟨ret_int (by rw [HSP.out,← HX.out]),bl_step (bl_step (bA) hb) hbr⟩
 · have hr:hpay op vs rs pts=0:=by unfold hpay;rw [if_neg h0]
   have h0':(hcheck op vs rs pts != 0)=true:=by simpa using h0
   generalize hcheck op vs rs pts=x at *
   have H0:=hide h0;clear h0
   have HR:=hide hr;clear hr
   go_wp2
   go_ret
   exact ⟨ret_int HR.out.symm,bl_step (bA) hb⟩
end
end
section
open Go.RowKit
theorem u8_info:(Tryz.prog.info? 5).map (fun i=>(i.zero,i.size,i.bytes))=some (some (.int .u8 0),1,1):=by kernel_rfl
theorem byCells_one (bs:List Int):∀ u∈byCells bs,u.oneCell'=true:=by
 intro u hu
 simp only [byCells,List.mem_map] at hu
 obtain ⟨x,_,rfl⟩:=hu
 rfl
def fbyte (r:Rg):Int:=r.v+(if r.d then 128 else 0)
def fbytes (op vs:Int) (rs:List Rg) (pts:Int):List Int :=
 [op]++(if op=3 then [vs] else if 4≤op then [(rs.length:Int)] else [])++rs.map fbyte++(if op=5 then [pts % 256,pts / 256] else [])
def hformat (op vs:Int) (rs:List Rg) (pts:Int):List Int × Int:=if hcheck op vs rs pts=0 then (fbytes op vs rs pts,0) else ([],hcheck op vs rs pts)
def Formatted (r:List Int × Int) (w:World) (e:Ending) (w':World):Prop :=
 ∃ v,e=.returned (.tuple #[v,.int .i64 r.2])∧w'.ownsRow w.heap.size 5 1 v r.1.length (byCells r.1)∧Below w.heap.size w w'
theorem or128_fin:∀ n:Fin 128,bits BinOp.or IntKind.u8 (n.val:Int) 128=(n.val:Int)+128:=by decide +kernel
theorem or128 (x:Int) (h0:0≤x) (h1:x<128):bits BinOp.or IntKind.u8 x 128=x+128:=by
 obtain ⟨n,rfl⟩:=Int.eq_ofNat_of_zero_le h0
 exact or128_fin ⟨n,by omega⟩
section
variable (vs:Int) (rs:List Rg) (A:Option Addr) (c:Nat) (pts:Int) (w:World)
variable (hs:Sl w w.heap.size A (rgCells rs)) (hn:rs.length≤maxLen)
include hs hn
theorem format_err (op:Int) (he:hcheck op vs rs pts≠0) :
 Calls Tryz.prog 35 #[.agg #[.int .i64 op,.int .i64 vs,.slice A rs.length c,.int .i64 pts]] w (Formatted (hformat op vs rs pts) w):=by
 have hf:hformat op vs rs pts=([],hcheck op vs rs pts):=by unfold hformat;rw [if_neg he]
 rw [hf]
 have hs':=hide hs;clear hs
 have he':(hcheck op vs rs pts != 0)=true:=by rw [bne_iff_ne];exact he
 have HF:=hide hf;clear hf
 have HE:=hide he;clear he
 go_enter Tryz.func35,Tryz.ntmps35
 go_wp2_with fail
 refine (check_any vs rs A c pts _ ((hs'.out.below (bA)).more (by simp)) hn op).mono ?_
 rintro e w1 ⟨rfl,hb⟩
 go_wp2
 go_ret2
 exact ⟨_,rfl,World.ownsRow_nil _ _ _ _,bl_step (bA) hb⟩
theorem format_12 (op:Int) (hop:op=1∨op=2) (hz:hcheck op vs rs pts=0) :
 Calls Tryz.prog 35 #[.agg #[.int .i64 op,.int .i64 vs,.slice A rs.length c,.int .i64 pts]] w (Formatted (hformat op vs rs pts) w):=by
 have hf:hformat op vs rs pts=(fbytes op vs rs pts,0):=by unfold hformat;rw [if_pos hz]
 rw [hf]
 obtain ⟨_,_,_,hv,_,hl,_,hp,_⟩:=hcheck_zero hz
 have e1:=hl (by omega);have e2:=hv (by omega);have e3:=hp (by omega)
 subst e1 e2 e3
 clear hv hl hp
 have hs':=hide hs;clear hs
 have HF:=hide hf;clear hf
 have HZ:=hide hz;clear hz
 rcases hop with rfl | rfl
 all_goals
  go_enter Tryz.func35,Tryz.ntmps35
  go_wp2_with fail
  refine (check_any 0 [] A c 0 _ ((hs'.out.below (bA)).more (by simp)) hn _).mono ?_
  rintro e w1 ⟨rfl,hb⟩
  rw [HZ.out]
  obtain ⟨hcl,hfr⟩:=bcell hb
  have hl:=hb.size
  simp at hl
  have hl2:w.heap.size<w1.heap.size:=by omega
  go_wp2
  refine wp_loop_rounds 1 ?_
  rw [rounds_succ]
  go_wp2
  go_ret2
  refine ⟨_,rfl,own_of_blk (xs:=byCells [_]) (Blk.new _ _ _) (by omega) rfl (by unfold maxLen;omega),bl_alloc (bl_step (bA) hb) _⟩
end
end
end Go.Proofs.YtfljlmleiggmjaaGreatDoor
