/- RefDo -/
import Derived.BigQuiet
import Derived.ChangeAlike
import Derived.Deep.AppendLies
import Derived.Deep.CutBlock
import Derived.Deep.QuietTactic
import Derived.Deep.RegionLaw
import Derived.Deep.RegionWith
import Derived.Laws.Bits64b
import Derived.Lib.OthersKept
import Derived.Lib.SlTrimSet
import Derived.Lib.SliceRun
import Derived.Outline
import Derived.Shelf.Bits.Mul64
import Derived.Shelf.Small.Bits
import Derived.Shelf.Strings.Builder1
import Derived.Shelf.Strings.SlTrimAscii
import Derived.Test.YthnenedoblncjaaGreatDoorProg
import Derived.Test.YthnenedoblncjaaGreatDoorPkP41
import Derived.Test.YthnenedoblncjaaGreatDoorPkP44
import Derived.Test.YthnenedoblncjaaGreatDoorPkP46
set_option maxRecDepth 1000000
set_option maxHeartbeats 8000000
namespace Go.Proofs.YthnenedoblncjaaGreatDoor
section
open Go.RowKit Go.Shelf
theorem strs_tail {X:World} {B b off:Nat} {x:List UInt8} {xs:List (List UInt8)} (h:Sl X B (some ⟨b,off,none⟩) (strCs (x::xs))):Sl X B (some ⟨b,off+1,none⟩) (strCs xs):=by
 rcases h with h0 | ⟨b',off',hA,hb,hc'⟩
 · cases h0
 · injection hA with hA
   injection hA with e1 e2 _
   subst e1;subst e2
   exact Sl.mk hb fun j u hu=>by rw [Nat.add_assoc,Nat.add_comm 1 j];exact hc' (j+1) u (by simpa [strCs] using hu)
section
variable {σ:St} {gb:Nat} {gs:List Gr} {vR vQ:Value} {Rd:Nat→Prop} (L x:List UInt8) (xs:List (List UInt8)) (hL:L.length≤1000000) (hsp:sp 32 L=x::xs) (hx0:xs≠[]) (hl:∀ y∈xs,y.length≤1000) (w:World) (h:RSes σ.1 gb gs vR vQ Rd w)
include hL hsp hx0 hl h
theorem rdo_orient (hx:x=[111,114,105,101,110,116]):Calls Tryz.prog 15 #[.pointer (some ⟨gb,0,none⟩),.string (strOf L)] w (RAns (orientR xs σ) gb Rd w):=by
 have hxn:xs.length≤1000000:=by
  have h1:=sp_len 32 L
  have h2:=List.count_le_length (a:=(32:UInt8)) (l:=L)
  rw [hsp,List.length_cons] at h1
  omega
 have HW:=hide (rwords_any L hL w)
 rw [hsp] at HW
 have HST:=hide (fun X (hb:Below w.heap.size w X)=>RStep.same (gb:=gb) (Rd:=Rd) ⟨gs,vR,vQ,h⟩ hb)
 have HH:=hide h
 have E11:Hid (({ data:=#[101,114,114,111,114,32,49,49] }:ByteArray)=strOf (errT 11)):=hide (by kernel_rfl)
 obtain ⟨s,hs⟩:∃ s,s=strOf x:=⟨_,rfl⟩
 have kk:(¬ s.toList=[97,108,108,111,119]∧(s.toList == [97,108,108,111,119])=false)∧(¬ s.toList=[100,101,110,121]∧(s.toList == [100,101,110,121])=false)∧(¬ s.toList=[114,101,113,117,101,115,116]∧(s.toList == [114,101,113,117,101,115,116])=false)∧(¬ s.toList=[97,100,100]∧(s.toList == [97,100,100])=false)∧(s.toList=[111,114,105,101,110,116]∧(s.toList == [111,114,105,101,110,116])=true)∧(¬ s.toList=[99,105,114,99,108,101]∧(s.toList == [99,105,114,99,108,101])=false)∧(¬ s.toList=[99,111,110,118,101,120]∧(s.toList == [99,111,110,118,101,120])=false)∧(¬ s.toList=[109,101,109,98,101,114]∧(s.toList == [109,101,109,98,101,114])=false):=by
  rw [hs,strOf_toList,hx]
  decide
 obtain ⟨q,hq⟩:∃ q,q=xs.length:=⟨_,rfl⟩
 have hq0:0<q:=by rw [hq];exact List.length_pos_iff.2 hx0
 have HSX:=hide hs;have HQ:=hide hq
 have HP:Hid (∀ b off c X,Sl X X.heap.size (some ⟨b,off,none⟩) (strCs xs)→Calls Tryz.prog 38 #[.slice (some ⟨b,off,none⟩) q c] X (PtsOut xs X)):=hide fun b off c X hs=>by
  rw [hq];exact rpoints_any23 xs b off c hl hxn X hs
 obtain ⟨S,hS⟩:∃ S,S=strOf L:=⟨_,rfl⟩
 rw [← hS] at HW ⊢
 clear hL hsp hx0 hl h hs hq hxn hS hx
 obtain ⟨⟨k0,j0⟩,⟨k1,j1⟩,⟨k2,j2⟩,⟨k3,j3⟩,⟨k4,j4⟩,⟨k5,j5⟩,⟨k6,j6⟩,⟨k7,j7⟩⟩:=kk
 go_enter Tryz.func15,Tryz.ntmps15
 go_wp2_with fail
 refine HW.out.mono ?_
 rintro e w1 ⟨v,rfl,hown,hb1⟩
 obtain ⟨VA,vc,rfl,hvc⟩:=own_slice hown
 obtain ⟨b,off,rfl,hbb,hcc⟩:=(Sl.of_own hown).open_ (by simp [strCs])
 have c0:w1.cell? ⟨b,off,none⟩=some (.string s):=by rw [HSX.out];exact hcc 0 _ rfl
 have HS1:=hide (strs_tail (Sl.of_own hown))
 have HB1:=hide hb1
 rw [List.length_cons,← HQ.out] at hvc ⊢
 have hq1:¬ ((q:Int)+1=1):=by omega
 have hq1b:((q:Int)+1 == 1)=false:=beq_eq_false_iff_ne.2 hq1
 clear hown hb1 hcc HW
 obtain ⟨X1,hX1⟩:∃ X1,X1=w1.alloc (.cells #[.int .u64 0] 44):=⟨_,rfl⟩
 have hbX:Below w1.heap.size w1 X1:=by rw [hX1];exact bA
 have HP1:=hide (fun c=>HP.out b (off+1) c X1 ((HS1.out.below hbX).more hbX.size))
 have HBX:=hide (bl_step HB1.out hbX)
 clear HP hbX
 go_wp2_with fail
 rw [← hX1]
 clear hX1
 refine (HP1.out _).mono ?_
 clear HP1 HS1
 rintro e w2 ⟨hb2,⟨ps,v,h1,rfl,hown⟩ | ⟨h1,rfl⟩⟩
 · obtain ⟨m,hm⟩:∃ m,m=ps.length:=⟨_,rfl⟩
   obtain ⟨VB,vd,rfl,hvd⟩:=own_slice hown
   by_cases h3:m=3
   · obtain ⟨p0,p1,p2,rfl⟩:=len3 (ps:=ps) (by omega)
     have hpj:=(ptsOk_j h1).1
     have hj0:PJ p0:=hpj p0 (by simp)
     have hj1:PJ p1:=hpj p1 (by simp)
     have hj2:PJ p2:=hpj p2 (by simp)
     obtain ⟨bv,ov,rfl,hbv,hcs⟩:∃ bv ov,VB=some ⟨bv,ov,none⟩∧bv<w2.heap.size∧(w2.cell? ⟨bv,ov,none⟩=some (.int .i64 p0.1)∧w2.cell? ⟨bv,ov+1,none⟩=some (.int .i64 p0.2)∧w2.cell? ⟨bv,ov+2,none⟩=some (.int .i64 p1.1)∧w2.cell? ⟨bv,ov+2+1,none⟩=some (.int .i64 p1.2)∧w2.cell? ⟨bv,ov+4,none⟩=some (.int .i64 p2.1)∧w2.cell? ⟨bv,ov+4+1,none⟩=some (.int .i64 p2.2)):=by
      rcases Sl.of_own hown with h7 | ⟨bv,ov,rfl,hlt,hcv⟩
      · cases h7
      · exact ⟨bv,ov,rfl,hlt,hcv 0 _ rfl,hcv 1 _ rfl,hcv 2 _ rfl,hcv 3 _ rfl,hcv 4 _ rfl,hcv 5 _ rfl⟩
     have HE:Hid (orientR xs σ=(txt (orientD p0 p1 p2).sign,σ)):=hide (by unfold orientR;rw [h1])
     obtain ⟨A,hA⟩:∃ A,A=(orientD p0 p1 p2).sign:=⟨_,rfl⟩
     have NN:Hid (∀ X,Calls Tryz.prog 39 #[.int .i64 A] X fun e w'=>e=.returned (.string (strOf (txt A)))∧Below X.heap.size X w'):=hide fun X=>by rw [hA];exact number22_any _ (sign_w _) X
     rw [← hA] at HE
     obtain ⟨x0,y0⟩:=p0
     obtain ⟨x1,y1⟩:=p1
     obtain ⟨x2,y2⟩:=p2
     have HFE:Hid (∀ X,Calls Tryz.prog 40 #[.agg #[.int .i64 x0,.int .i64 y0],.agg #[.int .i64 x1,.int .i64 y1],.agg #[.int .i64 x2,.int .i64 y2]] X fun e w'=>e=.returned (.int .i64 A)∧Below X.heap.size X w'):=hide fun X=>by
      rw [hA]
      exact rsign_any (x0,y0) (x1,y1) (x2,y2) hj0 hj1 hj2 X
     have HK:Hid (∀ X,Below w2.heap.size w2 X→Below w2.heap.size w2 X∧X.cell? ⟨bv,ov,none⟩=some (.int .i64 x0)∧X.cell? ⟨bv,ov+1,none⟩=some (.int .i64 y0)∧X.cell? ⟨bv,ov+2,none⟩=some (.int .i64 x1)∧X.cell? ⟨bv,ov+2+1,none⟩=some (.int .i64 y1)∧X.cell? ⟨bv,ov+4,none⟩=some (.int .i64 x2)∧X.cell? ⟨bv,ov+4+1,none⟩=some (.int .i64 y2)):=hide fun X hX=>⟨hX,(hX.cell (p:=⟨bv,ov,none⟩) hbv).trans hcs.1,(hX.cell (p:=⟨bv,ov+1,none⟩) hbv).trans hcs.2.1,(hX.cell (p:=⟨bv,ov+2,none⟩) hbv).trans hcs.2.2.1,(hX.cell (p:=⟨bv,ov+2+1,none⟩) hbv).trans hcs.2.2.2.1,(hX.cell (p:=⟨bv,ov+4,none⟩) hbv).trans hcs.2.2.2.2.1,(hX.cell (p:=⟨bv,ov+4+1,none⟩) hbv).trans hcs.2.2.2.2.2⟩
     have HK2:Hid (∀ X Y,(Below w2.heap.size w2 X∧X.cell? ⟨bv,ov,none⟩=some (.int .i64 x0)∧X.cell? ⟨bv,ov+1,none⟩=some (.int .i64 y0)∧X.cell? ⟨bv,ov+2,none⟩=some (.int .i64 x1)∧X.cell? ⟨bv,ov+2+1,none⟩=some (.int .i64 y1)∧X.cell? ⟨bv,ov+4,none⟩=some (.int .i64 x2)∧X.cell? ⟨bv,ov+4+1,none⟩=some (.int .i64 y2))→Below X.heap.size X Y→(Below w2.heap.size w2 Y∧Y.cell? ⟨bv,ov,none⟩=some (.int .i64 x0)∧Y.cell? ⟨bv,ov+1,none⟩=some (.int .i64 y0)∧Y.cell? ⟨bv,ov+2,none⟩=some (.int .i64 x1)∧Y.cell? ⟨bv,ov+2+1,none⟩=some (.int .i64 y1)∧Y.cell? ⟨bv,ov+4,none⟩=some (.int .i64 x2)∧Y.cell? ⟨bv,ov+4+1,none⟩=some (.int .i64 y2))):=hide fun X Y hX hb=>HK.out Y (bl_step hX.1 hb)
     have hd0:=HK.out w2.drew (bl_drew (Below.refl _ _))
     obtain ⟨_,g0,g1,g2,g3,g4,g5⟩:=HK.out w2 (Below.refl _ _)
     have HB2:=hide (bl_step HBX.out hb2)
     clear h1 hb2 hown hcs hpj hA hvd hm h3 hj0 hj1 hj2
     go_wp2
     go_region_held3 (fun w'=>Below w2.heap.size w2 w'∧w'.cell? ⟨bv,ov,none⟩=some (.int .i64 x0)∧w'.cell? ⟨bv,ov+1,none⟩=some (.int .i64 y0)∧w'.cell? ⟨bv,ov+2,none⟩=some (.int .i64 x1)∧w'.cell? ⟨bv,ov+2+1,none⟩=some (.int .i64 y1)∧w'.cell? ⟨bv,ov+4,none⟩=some (.int .i64 x2)∧w'.cell? ⟨bv,ov+4+1,none⟩=some (.int .i64 y2))
      (first | with_reducible exact hd0 | with_reducible exact HK2.out _ _ (by assumption) (by assumption))
      (first
        | (go_at_call 40;((with_reducible refine (HFE.out _).mono ?_);rintro e w4 ⟨rfl,hb4⟩))
        | (go_at_call 39;((with_reducible refine (NN.out _).mono ?_);rintro e w5 ⟨rfl,hb5⟩)))
     all_goals
      go_wp2
      go_ret
      rw [HE.out]
      exact ⟨rfl,HST.out _ (bl_step HB2.out (And.left (by assumption)))⟩
   · have HE:Hid (orientR xs σ=(errT 11,σ)):=hide (by
      unfold orientR
      split
      · rename_i p0 p1 p2 hp
        rw [h1] at hp
        cases hp
        exact absurd hm h3
      · rfl)
     have hm3:¬ (m:Int)=3:=by omega
     have hm3b:((m:Int) == 3)=false:=beq_eq_false_iff_ne.2 hm3
     have HB2:=hide (bl_step HBX.out hb2)
     rw [← hm]
     clear h1 hb2 hown hvd hm
     go_wp2
     go_ret
     rw [HE.out]
     exact ⟨by rw [E11.out];rfl,HST.out _ HB2.out⟩
 · have HE:Hid (orientR xs σ=(errT 11,σ)):=hide (by unfold orientR;rw [h1])
   have HB2:=hide (bl_step HBX.out hb2)
   clear h1 hb2
   go_wp2
   go_ret
   rw [HE.out]
   exact ⟨by rw [E11.out];rfl,HST.out _ HB2.out⟩
theorem rdo_circle (hx:x=[99,105,114,99,108,101]):Calls Tryz.prog 15 #[.pointer (some ⟨gb,0,none⟩),.string (strOf L)] w (RAns (circleR xs σ) gb Rd w):=by
 have hxn:xs.length≤1000000:=by
  have h1:=sp_len 32 L
  have h2:=List.count_le_length (a:=(32:UInt8)) (l:=L)
  rw [hsp,List.length_cons] at h1
  omega
 have HW:=hide (rwords_any L hL w)
 rw [hsp] at HW
 have HST:=hide (fun X (hb:Below w.heap.size w X)=>RStep.same (gb:=gb) (Rd:=Rd) ⟨gs,vR,vQ,h⟩ hb)
 have HH:=hide h
 have E11:Hid (({ data:=#[101,114,114,111,114,32,49,49] }:ByteArray)=strOf (errT 11)):=hide (by kernel_rfl)
 obtain ⟨s,hs⟩:∃ s,s=strOf x:=⟨_,rfl⟩
 have kk:(¬ s.toList=[97,108,108,111,119]∧(s.toList == [97,108,108,111,119])=false)∧(¬ s.toList=[100,101,110,121]∧(s.toList == [100,101,110,121])=false)∧(¬ s.toList=[114,101,113,117,101,115,116]∧(s.toList == [114,101,113,117,101,115,116])=false)∧(¬ s.toList=[97,100,100]∧(s.toList == [97,100,100])=false)∧(¬ s.toList=[111,114,105,101,110,116]∧(s.toList == [111,114,105,101,110,116])=false)∧(s.toList=[99,105,114,99,108,101]∧(s.toList == [99,105,114,99,108,101])=true)∧(¬ s.toList=[99,111,110,118,101,120]∧(s.toList == [99,111,110,118,101,120])=false)∧(¬ s.toList=[109,101,109,98,101,114]∧(s.toList == [109,101,109,98,101,114])=false):=by
  rw [hs,strOf_toList,hx]
  decide
 obtain ⟨q,hq⟩:∃ q,q=xs.length:=⟨_,rfl⟩
 have hq0:0<q:=by rw [hq];exact List.length_pos_iff.2 hx0
 have HSX:=hide hs;have HQ:=hide hq
 have HP:Hid (∀ b off c X,Sl X X.heap.size (some ⟨b,off,none⟩) (strCs xs)→Calls Tryz.prog 38 #[.slice (some ⟨b,off,none⟩) q c] X (PtsOut xs X)):=hide fun b off c X hs=>by
  rw [hq];exact rpoints_any23 xs b off c hl hxn X hs
 obtain ⟨S,hS⟩:∃ S,S=strOf L:=⟨_,rfl⟩
 rw [← hS] at HW ⊢
 clear hL hsp hx0 hl h hs hq hxn hS hx
 obtain ⟨⟨k0,j0⟩,⟨k1,j1⟩,⟨k2,j2⟩,⟨k3,j3⟩,⟨k4,j4⟩,⟨k5,j5⟩,⟨k6,j6⟩,⟨k7,j7⟩⟩:=kk
 go_enter Tryz.func15,Tryz.ntmps15
 go_wp2_with fail
 refine HW.out.mono ?_
 rintro e w1 ⟨v,rfl,hown,hb1⟩
 obtain ⟨VA,vc,rfl,hvc⟩:=own_slice hown
 obtain ⟨b,off,rfl,hbb,hcc⟩:=(Sl.of_own hown).open_ (by simp [strCs])
 have c0:w1.cell? ⟨b,off,none⟩=some (.string s):=by rw [HSX.out];exact hcc 0 _ rfl
 have HS1:=hide (strs_tail (Sl.of_own hown))
 have HB1:=hide hb1
 rw [List.length_cons,← HQ.out] at hvc ⊢
 have hq1:¬ ((q:Int)+1=1):=by omega
 have hq1b:((q:Int)+1 == 1)=false:=beq_eq_false_iff_ne.2 hq1
 clear hown hb1 hcc HW
 obtain ⟨X1,hX1⟩:∃ X1,X1=w1.alloc (.cells #[.int .u64 0] 44):=⟨_,rfl⟩
 have hbX:Below w1.heap.size w1 X1:=by rw [hX1];exact bA
 have HP1:=hide (fun c=>HP.out b (off+1) c X1 ((HS1.out.below hbX).more hbX.size))
 have HBX:=hide (bl_step HB1.out hbX)
 clear HP hbX
 go_wp2_with fail
 rw [← hX1]
 clear hX1
 refine (HP1.out _).mono ?_
 clear HP1 HS1
 rintro e w2 ⟨hb2,⟨ps,v,h1,rfl,hown⟩ | ⟨h1,rfl⟩⟩
 · obtain ⟨m,hm⟩:∃ m,m=ps.length:=⟨_,rfl⟩
   obtain ⟨VB,vd,rfl,hvd⟩:=own_slice hown
   by_cases h3:m=4
   · obtain ⟨p0,p1,p2,p3,rfl⟩:=len4 (ps:=ps) (by omega)
     have hpj:=(ptsOk_j h1).1
     have hj0:PJ p0:=hpj p0 (by simp)
     have hj1:PJ p1:=hpj p1 (by simp)
     have hj2:PJ p2:=hpj p2 (by simp)
     have hj3:PJ p3:=hpj p3 (by simp)
     obtain ⟨bv,ov,rfl,hbv,hcs⟩:∃ bv ov,VB=some ⟨bv,ov,none⟩∧bv<w2.heap.size∧(w2.cell? ⟨bv,ov,none⟩=some (.int .i64 p0.1)∧w2.cell? ⟨bv,ov+1,none⟩=some (.int .i64 p0.2)∧w2.cell? ⟨bv,ov+2,none⟩=some (.int .i64 p1.1)∧w2.cell? ⟨bv,ov+2+1,none⟩=some (.int .i64 p1.2)∧w2.cell? ⟨bv,ov+4,none⟩=some (.int .i64 p2.1)∧w2.cell? ⟨bv,ov+4+1,none⟩=some (.int .i64 p2.2)∧w2.cell? ⟨bv,ov+6,none⟩=some (.int .i64 p3.1)∧w2.cell? ⟨bv,ov+6+1,none⟩=some (.int .i64 p3.2)):=by
      rcases Sl.of_own hown with h7 | ⟨bv,ov,rfl,hlt,hcv⟩
      · cases h7
      · exact ⟨bv,ov,rfl,hlt,hcv 0 _ rfl,hcv 1 _ rfl,hcv 2 _ rfl,hcv 3 _ rfl,hcv 4 _ rfl,hcv 5 _ rfl,hcv 6 _ rfl,hcv 7 _ rfl⟩
     have HE:Hid (circleR xs σ=(txt (circleD p0 p1 p2 p3).sign,σ)):=hide (by unfold circleR;rw [h1])
     obtain ⟨A,hA⟩:∃ A,A=(circleD p0 p1 p2 p3).sign:=⟨_,rfl⟩
     have NN:Hid (∀ X,Calls Tryz.prog 39 #[.int .i64 A] X fun e w'=>e=.returned (.string (strOf (txt A)))∧Below X.heap.size X w'):=hide fun X=>by rw [hA];exact number22_any _ (sign_w _) X
     rw [← hA] at HE
     obtain ⟨x0,y0⟩:=p0
     obtain ⟨x1,y1⟩:=p1
     obtain ⟨x2,y2⟩:=p2
     obtain ⟨x3,y3⟩:=p3
     obtain ⟨ND,hND⟩:∃ ND,ND=circleD (x0,y0) (x1,y1) (x2,y2) (x3,y3):=⟨_,rfl⟩
     have HFE:Hid (∀ X,Calls Tryz.prog 41 #[.agg #[.int .i64 x0,.int .i64 y0],.agg #[.int .i64 x1,.int .i64 y1],.agg #[.int .i64 x2,.int .i64 y2],.agg #[.int .i64 x3,.int .i64 y3]] X (GaveR (fun _=>True) ND X)):=hide fun X =>
      rcval_raw _ _ _ _ _ _ _ _ _ ND hj0 hj1 hj2 hj3 (by rw [hND];exact rcircle _ _ _ _) X (fun _ _=>trivial)
     obtain rfl:A=ND.sign:=by rw [hA,hND]
     clear hND
     have HK:Hid (∀ X,Below w2.heap.size w2 X→Below w2.heap.size w2 X∧X.cell? ⟨bv,ov,none⟩=some (.int .i64 x0)∧X.cell? ⟨bv,ov+1,none⟩=some (.int .i64 y0)∧X.cell? ⟨bv,ov+2,none⟩=some (.int .i64 x1)∧X.cell? ⟨bv,ov+2+1,none⟩=some (.int .i64 y1)∧X.cell? ⟨bv,ov+4,none⟩=some (.int .i64 x2)∧X.cell? ⟨bv,ov+4+1,none⟩=some (.int .i64 y2)∧X.cell? ⟨bv,ov+6,none⟩=some (.int .i64 x3)∧X.cell? ⟨bv,ov+6+1,none⟩=some (.int .i64 y3)):=hide fun X hX=>⟨hX,(hX.cell (p:=⟨bv,ov,none⟩) hbv).trans hcs.1,(hX.cell (p:=⟨bv,ov+1,none⟩) hbv).trans hcs.2.1,(hX.cell (p:=⟨bv,ov+2,none⟩) hbv).trans hcs.2.2.1,(hX.cell (p:=⟨bv,ov+2+1,none⟩) hbv).trans hcs.2.2.2.1,(hX.cell (p:=⟨bv,ov+4,none⟩) hbv).trans hcs.2.2.2.2.1,(hX.cell (p:=⟨bv,ov+4+1,none⟩) hbv).trans hcs.2.2.2.2.2.1,(hX.cell (p:=⟨bv,ov+6,none⟩) hbv).trans hcs.2.2.2.2.2.2.1,(hX.cell (p:=⟨bv,ov+6+1,none⟩) hbv).trans hcs.2.2.2.2.2.2.2⟩
     have HK2:Hid (∀ X Y,(Below w2.heap.size w2 X∧X.cell? ⟨bv,ov,none⟩=some (.int .i64 x0)∧X.cell? ⟨bv,ov+1,none⟩=some (.int .i64 y0)∧X.cell? ⟨bv,ov+2,none⟩=some (.int .i64 x1)∧X.cell? ⟨bv,ov+2+1,none⟩=some (.int .i64 y1)∧X.cell? ⟨bv,ov+4,none⟩=some (.int .i64 x2)∧X.cell? ⟨bv,ov+4+1,none⟩=some (.int .i64 y2)∧X.cell? ⟨bv,ov+6,none⟩=some (.int .i64 x3)∧X.cell? ⟨bv,ov+6+1,none⟩=some (.int .i64 y3))→Below X.heap.size X Y→(Below w2.heap.size w2 Y∧Y.cell? ⟨bv,ov,none⟩=some (.int .i64 x0)∧Y.cell? ⟨bv,ov+1,none⟩=some (.int .i64 y0)∧Y.cell? ⟨bv,ov+2,none⟩=some (.int .i64 x1)∧Y.cell? ⟨bv,ov+2+1,none⟩=some (.int .i64 y1)∧Y.cell? ⟨bv,ov+4,none⟩=some (.int .i64 x2)∧Y.cell? ⟨bv,ov+4+1,none⟩=some (.int .i64 y2)∧Y.cell? ⟨bv,ov+6,none⟩=some (.int .i64 x3)∧Y.cell? ⟨bv,ov+6+1,none⟩=some (.int .i64 y3))):=hide fun X Y hX hb=>HK.out Y (bl_step hX.1 hb)
     have hd0:=HK.out w2.drew (bl_drew (Below.refl _ _))
     obtain ⟨_,g0,g1,g2,g3,g4,g5,g6,g7⟩:=HK.out w2 (Below.refl _ _)
     have HB2:=hide (bl_step HBX.out hb2)
     clear h1 hb2 hown hcs hpj hA hvd hm h3 hj0 hj1 hj2 hj3
     go_wp2
     go_region_held3 (fun w'=>Below w2.heap.size w2 w'∧w'.cell? ⟨bv,ov,none⟩=some (.int .i64 x0)∧w'.cell? ⟨bv,ov+1,none⟩=some (.int .i64 y0)∧w'.cell? ⟨bv,ov+2,none⟩=some (.int .i64 x1)∧w'.cell? ⟨bv,ov+2+1,none⟩=some (.int .i64 y1)∧w'.cell? ⟨bv,ov+4,none⟩=some (.int .i64 x2)∧w'.cell? ⟨bv,ov+4+1,none⟩=some (.int .i64 y2)∧w'.cell? ⟨bv,ov+6,none⟩=some (.int .i64 x3)∧w'.cell? ⟨bv,ov+6+1,none⟩=some (.int .i64 y3))
      (first | with_reducible exact hd0 | with_reducible exact HK2.out _ _ (by assumption) (by assumption))
      (first
        | (go_at_call 41;((with_reducible refine (HFE.out _).mono ?_);rintro e w4 ⟨A4,c4,rfl,hN4,hb4⟩;unfold numV;have hf:=fun wk=>run_sign ND.sign (.slice A4 (digs ND.natAbs).length c4) wk))
        | (go_at_call 39;((with_reducible refine (NN.out _).mono ?_);rintro e w5 ⟨rfl,hb5⟩)))
     all_goals
      go_wp2
      go_ret
      rw [HE.out]
      exact ⟨rfl,HST.out _ (bl_step HB2.out (And.left (by assumption)))⟩
   · have HE:Hid (circleR xs σ=(errT 11,σ)):=hide (by
      unfold circleR
      split
      · rename_i p0 p1 p2 p3 hp
        rw [h1] at hp
        cases hp
        exact absurd hm h3
      · rfl)
     have hm3:¬ (m:Int)=4:=by omega
     have hm3b:((m:Int) == 4)=false:=beq_eq_false_iff_ne.2 hm3
     have HB2:=hide (bl_step HBX.out hb2)
     rw [← hm]
     clear h1 hb2 hown hvd hm
     go_wp2
     go_ret
     rw [HE.out]
     exact ⟨by rw [E11.out];rfl,HST.out _ HB2.out⟩
 · have HE:Hid (circleR xs σ=(errT 11,σ)):=hide (by unfold circleR;rw [h1])
   have HB2:=hide (bl_step HBX.out hb2)
   clear h1 hb2
   go_wp2
   go_ret
   rw [HE.out]
   exact ⟨by rw [E11.out];rfl,HST.out _ HB2.out⟩
theorem rdo_convex (hx:x=[99,111,110,118,101,120]):Calls Tryz.prog 15 #[.pointer (some ⟨gb,0,none⟩),.string (strOf L)] w (RAns (convexR xs σ) gb Rd w):=by
 have hxn:xs.length≤1000000:=by
  have h1:=sp_len 32 L
  have h2:=List.count_le_length (a:=(32:UInt8)) (l:=L)
  rw [hsp,List.length_cons] at h1
  omega
 have HW:=hide (rwords_any L hL w)
 rw [hsp] at HW
 have HST:=hide (fun X (hb:Below w.heap.size w X)=>RStep.same (gb:=gb) (Rd:=Rd) ⟨gs,vR,vQ,h⟩ hb)
 have HH:=hide h
 have E11:Hid (({ data:=#[101,114,114,111,114,32,49,49] }:ByteArray)=strOf (errT 11)):=hide (by kernel_rfl)
 obtain ⟨s,hs⟩:∃ s,s=strOf x:=⟨_,rfl⟩
 have kk:(¬ s.toList=[97,108,108,111,119]∧(s.toList == [97,108,108,111,119])=false)∧(¬ s.toList=[100,101,110,121]∧(s.toList == [100,101,110,121])=false)∧(¬ s.toList=[114,101,113,117,101,115,116]∧(s.toList == [114,101,113,117,101,115,116])=false)∧(¬ s.toList=[97,100,100]∧(s.toList == [97,100,100])=false)∧(¬ s.toList=[111,114,105,101,110,116]∧(s.toList == [111,114,105,101,110,116])=false)∧(¬ s.toList=[99,105,114,99,108,101]∧(s.toList == [99,105,114,99,108,101])=false)∧(s.toList=[99,111,110,118,101,120]∧(s.toList == [99,111,110,118,101,120])=true)∧(¬ s.toList=[109,101,109,98,101,114]∧(s.toList == [109,101,109,98,101,114])=false):=by
  rw [hs,strOf_toList,hx]
  decide
 obtain ⟨q,hq⟩:∃ q,q=xs.length:=⟨_,rfl⟩
 have hq0:0<q:=by rw [hq];exact List.length_pos_iff.2 hx0
 have HSX:=hide hs;have HQ:=hide hq
 have HP:Hid (∀ b off c X,Sl X X.heap.size (some ⟨b,off,none⟩) (strCs xs)→Calls Tryz.prog 38 #[.slice (some ⟨b,off,none⟩) q c] X (PtsOut xs X)):=hide fun b off c X hs=>by
  rw [hq];exact rpoints_any23 xs b off c hl hxn X hs
 have E6:Hid (({ data:=#[101,114,114,111,114,32,54] }:ByteArray)=strOf (errT 6)):=hide (by kernel_rfl)
 have HXN:=hide hxn
 obtain ⟨S,hS⟩:∃ S,S=strOf L:=⟨_,rfl⟩
 rw [← hS] at HW ⊢
 clear hL hsp hx0 hl h hs hq hxn hS hx
 obtain ⟨⟨k0,j0⟩,⟨k1,j1⟩,⟨k2,j2⟩,⟨k3,j3⟩,⟨k4,j4⟩,⟨k5,j5⟩,⟨k6,j6⟩,⟨k7,j7⟩⟩:=kk
 go_enter Tryz.func15,Tryz.ntmps15
 go_wp2_with fail
 refine HW.out.mono ?_
 rintro e w1 ⟨v,rfl,hown,hb1⟩
 obtain ⟨VA,vc,rfl,hvc⟩:=own_slice hown
 obtain ⟨b,off,rfl,hbb,hcc⟩:=(Sl.of_own hown).open_ (by simp [strCs])
 have c0:w1.cell? ⟨b,off,none⟩=some (.string s):=by rw [HSX.out];exact hcc 0 _ rfl
 have HS1:=hide (strs_tail (Sl.of_own hown))
 have HB1:=hide hb1
 rw [List.length_cons,← HQ.out] at hvc ⊢
 have hq1:¬ ((q:Int)+1=1):=by omega
 have hq1b:((q:Int)+1 == 1)=false:=beq_eq_false_iff_ne.2 hq1
 clear hown hb1 hcc HW
 obtain ⟨X1,hX1⟩:∃ X1,X1=w1.alloc (.cells #[.int .u64 0] 44):=⟨_,rfl⟩
 have hbX:Below w1.heap.size w1 X1:=by rw [hX1];exact bA
 have HP1:=hide (fun c=>HP.out b (off+1) c X1 ((HS1.out.below hbX).more hbX.size))
 have HBX:=hide (bl_step HB1.out hbX)
 clear HP hbX
 go_wp2_with fail
 rw [← hX1]
 clear hX1
 refine (HP1.out _).mono ?_
 clear HP1 HS1
 rintro e w2 ⟨hb2,⟨ps,v,h1,rfl,hown⟩ | ⟨h1,rfl⟩⟩
 · obtain ⟨hpj,hne,hpl⟩:=ptsOk_j h1
   have hL1:1≤ps.length:=List.length_pos_iff.2 hne
   have hL2:ps.length≤1000001:=by have:=HXN.out;unfold chunkN at hpl;omega
   obtain ⟨N,hN⟩:∃ N,N=ps.length:=⟨_,rfl⟩
   obtain ⟨m,hm⟩:∃ m:Nat,m+1=N:=⟨N - 1,by omega⟩
   have hml:m<ps.length:=by omega
   obtain ⟨bv,ov,vd,rfl,hbv,hvd,hsl⟩:∃ bv ov vd,v=.slice (some ⟨bv,ov,none⟩) ps.length vd∧bv<w2.heap.size∧ps.length≤vd∧Sl w2 w2.heap.size (some ⟨bv,ov,none⟩) (ptCs ps):=by
    obtain ⟨VA,vd,rfl,hvd⟩:=own_slice hown
    have hs:=Sl.of_own hown
    obtain ⟨bv,ov,rfl,hlt,_⟩:=hs.open_ (by unfold ptCs;rw [flat_length (fun p:Pt=>[Value.int .i64 p.1,.int .i64 p.2]) 2 (fun _=>rfl)];omega)
    exact ⟨bv,ov,vd,rfl,hlt,hvd,hs⟩
   obtain ⟨e0,e1⟩:=sl_pt hsl hml
   have HB2:=hide (bl_step HBX.out hb2);have HST1:=hide hsl
   have HM6:Hid (m<3∨64<m→convexR xs σ=(errT 6,σ)):=hide fun hh=>by unfold convexR;rw [h1];dsimp only;exact if_pos (by omega)
   have HMK:Hid (¬ (m<3∨64<m)→convexR xs σ=(cword (convexA (ps.take m) (ptAt ps m)),σ)):=hide fun hh=>by
    unfold convexR;rw [h1];dsimp only
    rw [if_neg (by omega),show ps.length - 1=m from by omega]
   obtain ⟨p,hp⟩:∃ p,p=ptAt ps m:=⟨_,rfl⟩
   have hAb:=convex_bd (ps.take m) p
   obtain ⟨k,hk⟩:∃ k:Nat,convexA (ps.take m) p=(k:Int):=⟨(convexA (ps.take m) p).toNat,by omega⟩
   have hk4:k<4:=by omega
   have hk4i:(k:Int)<4:=by omega
   have hpp:PJ p:=by rw [hp];exact hpj.at_ m
   have htl:(ps.take m).length=m:=by rw [List.length_take];omega
   have HFE:Hid (∀ X,Below w2.heap.size w2 X→Calls Tryz.prog 42 #[.slice (some ⟨bv,ov,none⟩) m vd,.agg #[.int .i64 p.1,.int .i64 p.2]] X fun e w'=>e=.returned (.int .i64 (k:Int))∧Below X.heap.size X w'):=hide fun X hX=>by
    have h:=rconvex_any (ps.take m) (fun q hq=>hpj q (List.mem_of_mem_take hq)) p hpp (some ⟨bv,ov,none⟩) vd X (sl_takeN m ((HST1.out.below hX).more hX.size))
    rw [htl,hk] at h
    exact h
   rw [← hp,hk] at HMK
   rw [← hp] at e0 e1
   rw [← hN] at hvd ⊢
   have hmv:(m:Int)≤(vd:Int):=by omega
   have hm0:(0:Int)≤(m:Int):=by omega
   have hmL:(m:Int)<(N:Int):=by omega
   have hwr:IntKind.i64.wrap ((N:Int) - 1)=(m:Int):=by rw [IntKind.wrap_i64];omega
   obtain ⟨px,py⟩:=p
   dsimp only at e0 e1 HFE
   have hm1:=hide hm
   obtain ⟨X3,hX3⟩:∃ X3,X3=w2.alloc (.cells #[.string ⟨#[111,117,116,115,105,100,101]⟩,.string ⟨#[98,111,117,110,100,97,114,121]⟩,.string ⟨#[105,110,115,105,100,101]⟩,.string ⟨#[105,110,118,97,108,105,100]⟩] 83):=⟨_,rfl⟩
   have hb3:Below w2.heap.size w2 X3:=by rw [hX3];exact bA
   have hck:X3.cell? ⟨w2.heap.size,k,none⟩=some (.string (strOf (cword (k:Int)))):=by
    have N3:Blk X3 w2.heap.size 83 #[.string ⟨#[111,117,116,115,105,100,101]⟩,.string ⟨#[98,111,117,110,100,97,114,121]⟩,.string ⟨#[105,110,115,105,100,101]⟩,.string ⟨#[105,110,118,97,108,105,100]⟩]:=by rw [hX3];exact Blk.new _ _ _
    obtain rfl | rfl | rfl | rfl:k=0∨k=1∨k=2∨k=3:=by omega
    · exact N3.cell (i:=0) rfl
    · exact N3.cell (i:=1) rfl
    · exact N3.cell (i:=2) rfl
    · exact N3.cell (i:=3) rfl
   have hz3:=hb3.size
   have hzn:w2.heap.size<X3.heap.size:=by rw [hX3];simp
   have HK:Hid (∀ X,Below X3.heap.size X3 X→Below X3.heap.size X3 X∧X.cell? ⟨bv,ov+m*2,none⟩=some (.int .i64 px)∧X.cell? ⟨bv,ov+m*2+1,none⟩=some (.int .i64 py)∧X.cell? ⟨w2.heap.size,k,none⟩=some (.string (strOf (cword (k:Int))))):=hide fun X hX =>
    ⟨hX,(hX.cell (p:=⟨bv,_,none⟩) (Nat.lt_of_lt_of_le hbv hz3)).trans ((hb3.cell (p:=⟨bv,_,none⟩) hbv).trans e0),(hX.cell (p:=⟨bv,_,none⟩) (Nat.lt_of_lt_of_le hbv hz3)).trans ((hb3.cell (p:=⟨bv,_,none⟩) hbv).trans e1),(hX.cell (p:=⟨w2.heap.size,k,none⟩) hzn).trans hck⟩
   have HK2:Hid (∀ X Y,(Below X3.heap.size X3 X∧X.cell? ⟨bv,ov+m*2,none⟩=some (.int .i64 px)∧X.cell? ⟨bv,ov+m*2+1,none⟩=some (.int .i64 py)∧X.cell? ⟨w2.heap.size,k,none⟩=some (.string (strOf (cword (k:Int)))))→Below X.heap.size X Y→(Below X3.heap.size X3 Y∧Y.cell? ⟨bv,ov+m*2,none⟩=some (.int .i64 px)∧Y.cell? ⟨bv,ov+m*2+1,none⟩=some (.int .i64 py)∧Y.cell? ⟨w2.heap.size,k,none⟩=some (.string (strOf (cword (k:Int)))))):=hide fun X Y hX hb=>HK.out Y (bl_step hX.1 hb)
   have hd0:=HK.out X3.drew (bl_drew (Below.refl _ _))
   have HB3:=hide hb3
   clear hown h1 hb2 hpj hne hpl hL1 hL2 hN hml hsl hp hpp htl hvd hm hAb hk hck hz3 hzn hb3
   by_cases hn0:m<3∨64<m
   · have HE:=hide (HM6.out hn0)
     clear HMK HM6 hX3 hd0
     rcases hn0 with hn0 | hn0
     · have hN4:(N:Int)<4:=by have:=hm1.out;omega
       go_wp2
       go_ret
       rw [HE.out]
       exact ⟨by rw [E6.out];rfl,HST.out _ HB2.out⟩
     · have hN4:¬ (N:Int)<4:=by have:=hm1.out;omega
       have hN5:(N:Int) > 65:=by have:=hm1.out;omega
       go_wp2
       go_ret
       rw [HE.out]
       exact ⟨by rw [E6.out];rfl,HST.out _ HB2.out⟩
   · have HE:=hide (HMK.out hn0)
     have hN4:¬ (N:Int)<4:=by have:=hm1.out;omega
     have hN5:¬ (N:Int) > 65:=by have:=hm1.out;omega
     clear HMK HM6 hn0
     have HFX:Hid (∀ X,Below X3.heap.size X3 X→Calls Tryz.prog 42 #[.slice (some ⟨bv,ov,none⟩) m vd,.agg #[.int .i64 px,.int .i64 py]] X fun e w'=>e=.returned (.int .i64 (k:Int))∧Below X.heap.size X w'):=hide fun X hX=>HFE.out X (bl_step HB3.out hX)
     go_wp2
     rw [← hX3]
     clear hX3
     obtain ⟨_,g0,g1,g2⟩:=HK.out X3 (Below.refl _ _)
     go_region_held3 (fun w'=>Below X3.heap.size X3 w'∧w'.cell? ⟨bv,ov+m*2,none⟩=some (.int .i64 px)∧w'.cell? ⟨bv,ov+m*2+1,none⟩=some (.int .i64 py)∧w'.cell? ⟨w2.heap.size,k,none⟩=some (.string (strOf (cword (k:Int)))))
      (first | with_reducible exact hd0 | with_reducible exact HK2.out _ _ (by assumption) (by assumption))
      (first
        | (go_at_call 42;((with_reducible refine (HFX.out _ (And.left (by assumption))).mono ?_);rintro e w5 ⟨rfl,hb5⟩)))
     all_goals
      go_wp2
      go_ret
      rw [HE.out]
      exact ⟨rfl,HST.out _ (bl_step HB2.out (bl_step HB3.out (And.left (by assumption))))⟩
 · have HE:Hid (convexR xs σ=(errT 11,σ)):=hide (by unfold convexR;rw [h1])
   have HB2:=hide (bl_step HBX.out hb2)
   clear h1 hb2
   go_wp2
   go_ret
   rw [HE.out]
   exact ⟨by rw [E11.out];rfl,HST.out _ HB2.out⟩
theorem rdo_member (hx:x=[109,101,109,98,101,114]):Calls Tryz.prog 15 #[.pointer (some ⟨gb,0,none⟩),.string (strOf L)] w (RAns (memberR xs σ) gb Rd w):=by
 have hxn:xs.length≤1000000:=by
  have h1:=sp_len 32 L
  have h2:=List.count_le_length (a:=(32:UInt8)) (l:=L)
  rw [hsp,List.length_cons] at h1
  omega
 have HW:=hide (rwords_any L hL w)
 rw [hsp] at HW
 have HST:=hide (fun X (hb:Below w.heap.size w X)=>RStep.same (gb:=gb) (Rd:=Rd) ⟨gs,vR,vQ,h⟩ hb)
 have HH:=hide h
 have E11:Hid (({ data:=#[101,114,114,111,114,32,49,49] }:ByteArray)=strOf (errT 11)):=hide (by kernel_rfl)
 obtain ⟨s,hs⟩:∃ s,s=strOf x:=⟨_,rfl⟩
 have kk:(¬ s.toList=[97,108,108,111,119]∧(s.toList == [97,108,108,111,119])=false)∧(¬ s.toList=[100,101,110,121]∧(s.toList == [100,101,110,121])=false)∧(¬ s.toList=[114,101,113,117,101,115,116]∧(s.toList == [114,101,113,117,101,115,116])=false)∧(¬ s.toList=[97,100,100]∧(s.toList == [97,100,100])=false)∧(¬ s.toList=[111,114,105,101,110,116]∧(s.toList == [111,114,105,101,110,116])=false)∧(¬ s.toList=[99,105,114,99,108,101]∧(s.toList == [99,105,114,99,108,101])=false)∧(¬ s.toList=[99,111,110,118,101,120]∧(s.toList == [99,111,110,118,101,120])=false)∧(s.toList=[109,101,109,98,101,114]∧(s.toList == [109,101,109,98,101,114])=true):=by
  rw [hs,strOf_toList,hx]
  decide
 obtain ⟨q,hq⟩:∃ q,q=xs.length:=⟨_,rfl⟩
 have hq0:0<q:=by rw [hq];exact List.length_pos_iff.2 hx0
 have HSX:=hide hs;have HQ:=hide hq
 have HP:Hid (∀ b off c X,Sl X X.heap.size (some ⟨b,off,none⟩) (strCs xs)→Calls Tryz.prog 38 #[.slice (some ⟨b,off,none⟩) q c] X (PtsOut xs X)):=hide fun b off c X hs=>by
  rw [hq];exact rpoints_any23 xs b off c hl hxn X hs
 have E6:Hid (({ data:=#[101,114,114,111,114,32,54] }:ByteArray)=strOf (errT 6)):=hide (by kernel_rfl)
 obtain ⟨S,hS⟩:∃ S,S=strOf L:=⟨_,rfl⟩
 rw [← hS] at HW ⊢
 clear hL hsp hx0 hl h hs hq hxn hS hx
 obtain ⟨⟨k0,j0⟩,⟨k1,j1⟩,⟨k2,j2⟩,⟨k3,j3⟩,⟨k4,j4⟩,⟨k5,j5⟩,⟨k6,j6⟩,⟨k7,j7⟩⟩:=kk
 go_enter Tryz.func15,Tryz.ntmps15
 go_wp2_with fail
 refine HW.out.mono ?_
 rintro e w1 ⟨v,rfl,hown,hb1⟩
 obtain ⟨VA,vc,rfl,hvc⟩:=own_slice hown
 obtain ⟨b,off,rfl,hbb,hcc⟩:=(Sl.of_own hown).open_ (by simp [strCs])
 have c0:w1.cell? ⟨b,off,none⟩=some (.string s):=by rw [HSX.out];exact hcc 0 _ rfl
 have HS1:=hide (strs_tail (Sl.of_own hown))
 have HB1:=hide hb1
 rw [List.length_cons,← HQ.out] at hvc ⊢
 have hq1:¬ ((q:Int)+1=1):=by omega
 have hq1b:((q:Int)+1 == 1)=false:=beq_eq_false_iff_ne.2 hq1
 clear hown hb1 hcc HW
 obtain ⟨X1,hX1⟩:∃ X1,X1=w1.alloc (.cells #[.int .u64 0] 44):=⟨_,rfl⟩
 have hbX:Below w1.heap.size w1 X1:=by rw [hX1];exact bA
 have HP1:=hide (fun c=>HP.out b (off+1) c X1 ((HS1.out.below hbX).more hbX.size))
 have HBX:=hide (bl_step HB1.out hbX)
 clear HP hbX
 go_wp2_with fail
 rw [← hX1]
 clear hX1
 refine (HP1.out _).mono ?_
 clear HP1 HS1
 rintro e w2 ⟨hb2,⟨ps,v,h1,rfl,hown⟩ | ⟨h1,rfl⟩⟩
 · obtain ⟨m,hm⟩:∃ m,m=ps.length:=⟨_,rfl⟩
   obtain ⟨VB,vd,rfl,hvd⟩:=own_slice hown
   have S2:=HH.out.below (bl_step HBX.out hb2)
   have HB2:=hide (bl_step HBX.out hb2)
   by_cases hm1:m=1
   · obtain ⟨p,rfl⟩:∃ p,ps=[p]:=List.length_eq_one_iff.1 (by omega)
     have hpj:PJ p:=(ptsOk_j h1).1 p (List.mem_singleton.2 rfl)
     obtain ⟨bv,ov,rfl,e0,e1⟩:∃ bv ov,VB=some ⟨bv,ov,none⟩∧w2.cell? ⟨bv,ov,none⟩=some (.int .i64 p.1)∧w2.cell? ⟨bv,ov+1,none⟩=some (.int .i64 p.2):=by
      rcases Sl.of_own hown with h7 | ⟨bv,ov,rfl,_,hcv⟩
      · cases h7
      · exact ⟨bv,ov,rfl,hcv 0 _ rfl,hcv 1 _ rfl⟩
     obtain ⟨RA,rc,rfl,hrc⟩:=own_slice S2.rows
     obtain ⟨n,hn⟩:∃ n,n=gs.length:=⟨_,rfl⟩
     have cS:=S2.blk.cell (i:=0) (v:=.slice RA gs.length rc) rfl
     rw [← hn] at cS
     have hbv:=cell_lt e0
     have hsb:=S2.blk.lt
     have HS2:=hide S2
     have hnil:σ.1=[] ↔ n=0:=by rw [hn,← S2.data];simp
     have HM6:Hid (n=0→memberR xs σ=(errT 6,σ)):=hide fun hh=>by unfold memberR;rw [h1];exact if_pos (hnil.2 hh)
     have HMK:Hid (n≠0→memberR xs σ=(fword (fenceA (σ.1.map cg) p),σ)):=hide fun hh=>by unfold memberR;rw [h1];exact if_neg fun h=>hh (hnil.1 h)
     have hAb:0≤fenceA (σ.1.map cg) p∧fenceA (σ.1.map cg) p≤2:=by unfold fenceA;cases fenceOk (σ.1.map cg) <;> cases memOk (σ.1.map cg) p <;> decide
     obtain ⟨k,hk⟩:∃ k:Nat,fenceA (σ.1.map cg) p=(k:Int):=⟨(fenceA (σ.1.map cg) p).toNat,by omega⟩
     have hk3:k<3:=by omega
     have hk3i:(k:Int)<3:=by omega
     have HFE:Hid (∀ X,Below w2.heap.size w2 X→Calls Tryz.prog 43 #[.slice RA n rc,.agg #[.int .i64 p.1,.int .i64 p.2]] X fun e w'=>e=.returned (.int .i64 (k:Int))∧Below X.heap.size X w'):=hide fun X hX=>by
      have SX:=HS2.out.below hX
      have e1:fenceA (σ.1.map cg) p=fenceA gs p:=by
       rw [← SX.data,cg_gd];unfold fenceA;rw [can_fenceOk (fun g hg=>(SX.pts g hg).1),can_memOk (fun g hg=>(SX.pts g hg).1)]
      rw [hn,← hk,e1]
      exact rfence_any gs p hpj RA rc X (Sl.of_own SX.rows) SX.gsR
     rw [hk] at HMK
     obtain ⟨px,py⟩:=p
     dsimp only at e0 e1 HFE
     obtain ⟨X3,hX3⟩:∃ X3,X3=w2.alloc (.cells #[.string ⟨#[110,111]⟩,.string ⟨#[121,101,115]⟩,.string ⟨#[105,110,118,97,108,105,100]⟩] 85):=⟨_,rfl⟩
     have hb3:Below w2.heap.size w2 X3:=by rw [hX3];exact bA
     have hck:X3.cell? ⟨w2.heap.size,k,none⟩=some (.string (strOf (fword (k:Int)))):=by
      have N3:Blk X3 w2.heap.size 85 #[.string ⟨#[110,111]⟩,.string ⟨#[121,101,115]⟩,.string ⟨#[105,110,118,97,108,105,100]⟩]:=by rw [hX3];exact Blk.new _ _ _
      obtain rfl | rfl | rfl:k=0∨k=1∨k=2:=by omega
      · exact N3.cell (i:=0) rfl
      · exact N3.cell (i:=1) rfl
      · exact N3.cell (i:=2) rfl
     have hz3:=hb3.size
     have hzn:w2.heap.size<X3.heap.size:=by rw [hX3];simp
     have HK:Hid (∀ X,Below X3.heap.size X3 X→Below X3.heap.size X3 X∧X.cell? ⟨gb,0,none⟩=some (.slice RA n rc)∧X.cell? ⟨bv,ov,none⟩=some (.int .i64 px)∧X.cell? ⟨bv,ov+1,none⟩=some (.int .i64 py)∧X.cell? ⟨w2.heap.size,k,none⟩=some (.string (strOf (fword (k:Int))))):=hide fun X hX =>
      ⟨hX,(hX.cell (p:=⟨gb,_,none⟩) (Nat.lt_of_lt_of_le hsb hz3)).trans ((hb3.cell (p:=⟨gb,_,none⟩) hsb).trans cS),(hX.cell (p:=⟨bv,_,none⟩) (Nat.lt_of_lt_of_le hbv hz3)).trans ((hb3.cell (p:=⟨bv,_,none⟩) hbv).trans e0),(hX.cell (p:=⟨bv,_,none⟩) (Nat.lt_of_lt_of_le hbv hz3)).trans ((hb3.cell (p:=⟨bv,_,none⟩) hbv).trans e1),(hX.cell (p:=⟨w2.heap.size,k,none⟩) hzn).trans hck⟩
     have HK2:Hid (∀ X Y,(Below X3.heap.size X3 X∧X.cell? ⟨gb,0,none⟩=some (.slice RA n rc)∧X.cell? ⟨bv,ov,none⟩=some (.int .i64 px)∧X.cell? ⟨bv,ov+1,none⟩=some (.int .i64 py)∧X.cell? ⟨w2.heap.size,k,none⟩=some (.string (strOf (fword (k:Int)))))→Below X.heap.size X Y→(Below X3.heap.size X3 Y∧Y.cell? ⟨gb,0,none⟩=some (.slice RA n rc)∧Y.cell? ⟨bv,ov,none⟩=some (.int .i64 px)∧Y.cell? ⟨bv,ov+1,none⟩=some (.int .i64 py)∧Y.cell? ⟨w2.heap.size,k,none⟩=some (.string (strOf (fword (k:Int)))))):=hide fun X Y hX hb=>HK.out Y (bl_step hX.1 hb)
     have hd0:=HK.out X3.drew (bl_drew (Below.refl _ _))
     have HB3:=hide hb3
     clear hown h1 hb2 hpj hn S2 HS2 hrc hnil hAb hk hck hz3 hzn hb3 hm hm1 hvd
     by_cases hn0:n=0
     · have HE:=hide (HM6.out hn0)
       clear HMK HM6 hX3 hd0
       subst hn0
       go_wp2
       go_ret
       rw [HE.out]
       exact ⟨by rw [E6.out];rfl,HST.out _ HB2.out⟩
     · have HE:=hide (HMK.out hn0)
       have hn1:¬ (n:Int)=0:=by omega
       have hn1b:((n:Int) == 0)=false:=beq_eq_false_iff_ne.2 hn1
       clear HMK HM6 hn0
       have HFX:Hid (∀ X,Below X3.heap.size X3 X→Calls Tryz.prog 43 #[.slice RA n rc,.agg #[.int .i64 px,.int .i64 py]] X fun e w'=>e=.returned (.int .i64 (k:Int))∧Below X.heap.size X w'):=hide fun X hX=>HFE.out X (bl_step HB3.out hX)
       go_wp2
       rw [← hX3]
       clear hX3
       obtain ⟨_,g0,g1,g2,g3⟩:=HK.out X3 (Below.refl _ _)
       go_region_held3 (fun w'=>Below X3.heap.size X3 w'∧w'.cell? ⟨gb,0,none⟩=some (.slice RA n rc)∧w'.cell? ⟨bv,ov,none⟩=some (.int .i64 px)∧w'.cell? ⟨bv,ov+1,none⟩=some (.int .i64 py)∧w'.cell? ⟨w2.heap.size,k,none⟩=some (.string (strOf (fword (k:Int)))))
        (first | with_reducible exact hd0 | with_reducible exact HK2.out _ _ (by assumption) (by assumption))
        (first
          | (go_at_call 43;((with_reducible refine (HFX.out _ (And.left (by assumption))).mono ?_);rintro e w5 ⟨rfl,hb5⟩)))
       all_goals
        go_wp2
        go_ret
        rw [HE.out]
        exact ⟨rfl,HST.out _ (bl_step HB2.out (bl_step HB3.out (And.left (by assumption))))⟩
   · have HE:Hid (memberR xs σ=(errT 11,σ)):=hide (by
      unfold memberR
      split
      · rename_i p hp
        rw [h1] at hp
        cases hp
        exact absurd hm hm1
      · rfl)
     have hm3:¬ (m:Int)=1:=by omega
     have hm3b:((m:Int) == 1)=false:=beq_eq_false_iff_ne.2 hm3
     rw [← hm]
     clear h1 hb2 hown hvd hm S2
     go_wp2
     go_ret
     rw [HE.out]
     exact ⟨by rw [E11.out];rfl,HST.out _ HB2.out⟩
 · have HE:Hid (memberR xs σ=(errT 11,σ)):=hide (by unfold memberR;rw [h1])
   have HB2:=hide (bl_step HBX.out hb2)
   clear h1 hb2
   go_wp2
   go_ret
   rw [HE.out]
   exact ⟨by rw [E11.out];rfl,HST.out _ HB2.out⟩
theorem rdo_allow (kd:Bool) (t:List UInt8) (ws:List (List UInt8)) (hxs:xs=t::ws) (hw0:ws≠[]) (hkd:t=if kd then polyW else discW) (hx:x=[97,108,108,111,119]):Calls Tryz.prog 15 #[.pointer (some ⟨gb,0,none⟩),.string (strOf L)] w (RAns (addR false xs σ) gb Rd w):=by
 have hxn:xs.length≤1000000:=by
  have h1:=sp_len 32 L
  have h2:=List.count_le_length (a:=(32:UInt8)) (l:=L)
  rw [hsp,List.length_cons] at h1
  omega
 have HW:=hide (rwords_any L hL w)
 rw [hsp] at HW
 have HST:=hide (fun X (hb:Below w.heap.size w X)=>RStep.same (gb:=gb) (Rd:=Rd) ⟨gs,vR,vQ,h⟩ hb)
 have HH:=hide h
 have E11:Hid (({ data:=#[101,114,114,111,114,32,49,49] }:ByteArray)=strOf (errT 11)):=hide (by kernel_rfl)
 obtain ⟨s,hs⟩:∃ s,s=strOf x:=⟨_,rfl⟩
 have kk:(s.toList=[97,108,108,111,119]∧(s.toList == [97,108,108,111,119])=true)∧(¬ s.toList=[100,101,110,121]∧(s.toList == [100,101,110,121])=false)∧(¬ s.toList=[114,101,113,117,101,115,116]∧(s.toList == [114,101,113,117,101,115,116])=false)∧(¬ s.toList=[97,100,100]∧(s.toList == [97,100,100])=false)∧(¬ s.toList=[111,114,105,101,110,116]∧(s.toList == [111,114,105,101,110,116])=false)∧(¬ s.toList=[99,105,114,99,108,101]∧(s.toList == [99,105,114,99,108,101])=false)∧(¬ s.toList=[99,111,110,118,101,120]∧(s.toList == [99,111,110,118,101,120])=false)∧(¬ s.toList=[109,101,109,98,101,114]∧(s.toList == [109,101,109,98,101,114])=false):=by
  rw [hs,strOf_toList,hx]
  decide
 obtain ⟨q,hq⟩:∃ q,q=xs.length:=⟨_,rfl⟩
 have hq0:0<q:=by rw [hq];exact List.length_pos_iff.2 hx0
 have HSX:=hide hs;have HQ:=hide hq
 have HR:Hid (∀ b off c X,q≤c→RSes σ.1 gb gs vR vQ Rd X→Sl X X.heap.size (some ⟨b,off,none⟩) (strCs xs)→Calls Tryz.prog 36 #[.pointer (some ⟨gb,0,none⟩),.bool false,.slice (some ⟨b,off,none⟩) q c] X (RAns (addR false xs σ) gb Rd X)):=hide fun b off c X hc hs hsl=>by
  rw [hq]
  subst hxs
  rw [List.length_cons]
  have e:addR false (t::ws) σ=addG false kd ws σ:=by
   unfold addR
   dsimp only
   rw [hkd]
   cases kd <;> rfl
  rw [e]
  exact rregion_any false t ws b off c (by rw [hq,List.length_cons] at hc;exact hc) hw0 (fun y hy=>hl y (List.mem_cons_of_mem _ hy)) (by rw [List.length_cons] at hxn;omega) X hs hsl kd hkd
 obtain ⟨S,hS⟩:∃ S,S=strOf L:=⟨_,rfl⟩
 rw [← hS] at HW ⊢
 clear hL hsp hx0 hl h hs hq hxn hS hx hxs hw0 hkd
 obtain ⟨⟨k0,j0⟩,⟨k1,j1⟩,⟨k2,j2⟩,⟨k3,j3⟩,⟨k4,j4⟩,⟨k5,j5⟩,⟨k6,j6⟩,⟨k7,j7⟩⟩:=kk
 go_enter Tryz.func15,Tryz.ntmps15
 go_wp2_with fail
 refine HW.out.mono ?_
 rintro e w1 ⟨v,rfl,hown,hb1⟩
 obtain ⟨VA,vc,rfl,hvc⟩:=own_slice hown
 obtain ⟨b,off,rfl,hbb,hcc⟩:=(Sl.of_own hown).open_ (by simp [strCs])
 have c0:w1.cell? ⟨b,off,none⟩=some (.string s):=by rw [HSX.out];exact hcc 0 _ rfl
 have HS1:=hide (strs_tail (Sl.of_own hown))
 have HB1:=hide hb1
 rw [List.length_cons,← HQ.out] at hvc ⊢
 have hq1:¬ ((q:Int)+1=1):=by omega
 have hq1b:((q:Int)+1 == 1)=false:=beq_eq_false_iff_ne.2 hq1
 clear hown hb1 hcc HW
 have HRR:=hide (HR.out b (off+1) (vc - 1) w1 (by omega) (HH.out.below HB1.out) HS1.out)
 clear HR HH HS1
 go_wp2_with fail
 refine HRR.out.mono ?_
 rintro e w2 ⟨rfl,hst⟩
 have HS2:=hide (RStep.ahead hst HB1.out)
 clear hst
 go_wp2
 go_ret
 exact ⟨rfl,HS2.out⟩
theorem rdo_deny (kd:Bool) (t:List UInt8) (ws:List (List UInt8)) (hxs:xs=t::ws) (hw0:ws≠[]) (hkd:t=if kd then polyW else discW) (hx:x=[100,101,110,121]):Calls Tryz.prog 15 #[.pointer (some ⟨gb,0,none⟩),.string (strOf L)] w (RAns (addR true xs σ) gb Rd w):=by
 have hxn:xs.length≤1000000:=by
  have h1:=sp_len 32 L
  have h2:=List.count_le_length (a:=(32:UInt8)) (l:=L)
  rw [hsp,List.length_cons] at h1
  omega
 have HW:=hide (rwords_any L hL w)
 rw [hsp] at HW
 have HST:=hide (fun X (hb:Below w.heap.size w X)=>RStep.same (gb:=gb) (Rd:=Rd) ⟨gs,vR,vQ,h⟩ hb)
 have HH:=hide h
 have E11:Hid (({ data:=#[101,114,114,111,114,32,49,49] }:ByteArray)=strOf (errT 11)):=hide (by kernel_rfl)
 obtain ⟨s,hs⟩:∃ s,s=strOf x:=⟨_,rfl⟩
 have kk:(¬ s.toList=[97,108,108,111,119]∧(s.toList == [97,108,108,111,119])=false)∧(s.toList=[100,101,110,121]∧(s.toList == [100,101,110,121])=true)∧(¬ s.toList=[114,101,113,117,101,115,116]∧(s.toList == [114,101,113,117,101,115,116])=false)∧(¬ s.toList=[97,100,100]∧(s.toList == [97,100,100])=false)∧(¬ s.toList=[111,114,105,101,110,116]∧(s.toList == [111,114,105,101,110,116])=false)∧(¬ s.toList=[99,105,114,99,108,101]∧(s.toList == [99,105,114,99,108,101])=false)∧(¬ s.toList=[99,111,110,118,101,120]∧(s.toList == [99,111,110,118,101,120])=false)∧(¬ s.toList=[109,101,109,98,101,114]∧(s.toList == [109,101,109,98,101,114])=false):=by
  rw [hs,strOf_toList,hx]
  decide
 obtain ⟨q,hq⟩:∃ q,q=xs.length:=⟨_,rfl⟩
 have hq0:0<q:=by rw [hq];exact List.length_pos_iff.2 hx0
 have HSX:=hide hs;have HQ:=hide hq
 have HR:Hid (∀ b off c X,q≤c→RSes σ.1 gb gs vR vQ Rd X→Sl X X.heap.size (some ⟨b,off,none⟩) (strCs xs)→Calls Tryz.prog 36 #[.pointer (some ⟨gb,0,none⟩),.bool true,.slice (some ⟨b,off,none⟩) q c] X (RAns (addR true xs σ) gb Rd X)):=hide fun b off c X hc hs hsl=>by
  rw [hq]
  subst hxs
  rw [List.length_cons]
  have e:addR true (t::ws) σ=addG true kd ws σ:=by
   unfold addR
   dsimp only
   rw [hkd]
   cases kd <;> rfl
  rw [e]
  exact rregion_any true t ws b off c (by rw [hq,List.length_cons] at hc;exact hc) hw0 (fun y hy=>hl y (List.mem_cons_of_mem _ hy)) (by rw [List.length_cons] at hxn;omega) X hs hsl kd hkd
 obtain ⟨S,hS⟩:∃ S,S=strOf L:=⟨_,rfl⟩
 rw [← hS] at HW ⊢
 clear hL hsp hx0 hl h hs hq hxn hS hx hxs hw0 hkd
 obtain ⟨⟨k0,j0⟩,⟨k1,j1⟩,⟨k2,j2⟩,⟨k3,j3⟩,⟨k4,j4⟩,⟨k5,j5⟩,⟨k6,j6⟩,⟨k7,j7⟩⟩:=kk
 go_enter Tryz.func15,Tryz.ntmps15
 go_wp2_with fail
 refine HW.out.mono ?_
 rintro e w1 ⟨v,rfl,hown,hb1⟩
 obtain ⟨VA,vc,rfl,hvc⟩:=own_slice hown
 obtain ⟨b,off,rfl,hbb,hcc⟩:=(Sl.of_own hown).open_ (by simp [strCs])
 have c0:w1.cell? ⟨b,off,none⟩=some (.string s):=by rw [HSX.out];exact hcc 0 _ rfl
 have HS1:=hide (strs_tail (Sl.of_own hown))
 have HB1:=hide hb1
 rw [List.length_cons,← HQ.out] at hvc ⊢
 have hq1:¬ ((q:Int)+1=1):=by omega
 have hq1b:((q:Int)+1 == 1)=false:=beq_eq_false_iff_ne.2 hq1
 clear hown hb1 hcc HW
 have HRR:=hide (HR.out b (off+1) (vc - 1) w1 (by omega) (HH.out.below HB1.out) HS1.out)
 clear HR HH HS1
 go_wp2_with fail
 refine HRR.out.mono ?_
 rintro e w2 ⟨rfl,hst⟩
 have HS2:=hide (RStep.ahead hst HB1.out)
 clear hst
 go_wp2
 go_ret
 exact ⟨rfl,HS2.out⟩
end
end
end Go.Proofs.YthnenedoblncjaaGreatDoor
