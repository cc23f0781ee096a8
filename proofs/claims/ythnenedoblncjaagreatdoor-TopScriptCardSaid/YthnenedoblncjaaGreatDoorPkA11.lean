/- RefFormatAny -/
import Derived.Test.YthnenedoblncjaaGreatDoorPkA03
set_option maxRecDepth 1000000
set_option maxHeartbeats 8000000
namespace Go.Proofs.YthnenedoblncjaaGreatDoor
open Go.Proofs.Tryz
section
open Go.RowKit
theorem FD{op vs Z0:Int}{rs:List Rg}{e:Int}(h:ZT op vs rs Z0=e)(he:e≠0):ZP op vs rs Z0=([],e):=by unfold ZP;rw [h,if_neg he]
theorem ZI{op vs Z0:Int}{rs:List Rg}{e:Int}{w w':World}(h:ZT op vs rs Z0=e)(he:e≠0)(hb:Below w.heap.size w w'):
 Zy (ZP op vs rs Z0) w (.returned (.tuple #[.slice none 0 0,.int .i64 e])) w':=by
 rw [FD h he];exact ⟨_,rfl,World.ownsRow_nil _ _ _ _,hb⟩
section
variable (vs:Int)(rs:List Rg)(A:Option Addr)(c:Nat)(Z0:Int)(w:World)
theorem Gp(op:Int)(hop:op<1\/5<op):
 Calls prog 56 #[.agg #[.int .i64 op,.int .i64 vs,.slice A rs.length c,.int .i64 Z0]] w (Zy (ZP op vs rs Z0) w):=by
 have hr:ZT op vs rs Z0=5:=by unfold ZT Zd;rw [if_pos hop]
 have HR:=hide hr;clear hr;rcases hop with hop|hop
 all_goals
  go_enter func56,ntmps56;go_wp2;go_ret2;exact ZI HR.out (by omega) (bA)
variable (hs:Sl w w.heap.size A (rgCells rs))(hn:rs.length<=maxLen)
theorem IV(hv:vs≠0):
 Calls prog 56 #[.agg #[.int .i64 1,.int .i64 vs,.slice A rs.length c,.int .i64 Z0]] w (Zy (ZP 1 vs rs Z0) w):=by
 have hr:ZT 1 vs rs Z0=2:=by
  unfold ZT Zd
  repeat first|rw [if_neg (by omega)]|rw [if_pos (by omega)]|rw [cond_true]|rw [cond_false]|rw [decide_eq_true (by omega),Bool.true_and]|rw [decide_eq_false (by omega),Bool.false_and]
 have HR:=hide hr;clear hr;have hv':(vs != 0)=true:=by rw [bne_iff_ne];exact hv
 have HV:=hide hv;clear hv;go_enter func56,ntmps56;go_wp2;go_ret2;exact ZI HR.out (by omega) (bA)
theorem IU(hv:vs=0)(hl:0<rs.length):
 Calls prog 56 #[.agg #[.int .i64 1,.int .i64 vs,.slice A rs.length c,.int .i64 Z0]] w (Zy (ZP 1 vs rs Z0) w):=by
 have hr:ZT 1 vs rs Z0=2:=by
  unfold ZT Zd
  repeat first|rw [if_neg (by omega)]|rw [if_pos (by omega)]|rw [cond_true]|rw [cond_false]|rw [decide_eq_true (by omega),Bool.true_and]|rw [decide_eq_false (by omega),Bool.false_and]
 have HR:=hide hr;clear hr;have hv':(vs != 0)=false:=by rw [bne_eq_false_iff_eq];exact hv
 have HV:=hide hv;clear hv;have hl':decide (0<rs.length)=true:=decide_eq_true hl;go_enter func56,ntmps56;go_wp2;go_ret2;exact ZI HR.out (by omega) (bA)
theorem IQ(hv:vs=0)(hl:rs=[])(hp:Z0≠0):
 Calls prog 56 #[.agg #[.int .i64 1,.int .i64 vs,.slice A rs.length c,.int .i64 Z0]] w (Zy (ZP 1 vs rs Z0) w):=by
 have hr:ZT 1 vs rs Z0=2:=by
  unfold ZT Zd
  repeat first|rw [if_neg (by omega)]|rw [if_pos (by omega)]|rw [cond_true]|rw [cond_false]|rw [decide_eq_true (by omega),Bool.true_and]|rw [decide_eq_false (by omega),Bool.false_and]
 have HR:=hide hr;clear hr;have hv':(vs != 0)=false:=by rw [bne_eq_false_iff_eq];exact hv
 have HV:=hide hv;clear hv;subst hl;have hp':(Z0 != 0)=true:=by rw [bne_iff_ne];exact hp
 have HP:=hide hp;clear hp;go_enter func56,ntmps56;go_wp2;go_ret2;exact ZI HR.out (by omega) (bA)
theorem IZ(hv:vs≠0):
 Calls prog 56 #[.agg #[.int .i64 2,.int .i64 vs,.slice A rs.length c,.int .i64 Z0]] w (Zy (ZP 2 vs rs Z0) w):=by
 have hr:ZT 2 vs rs Z0=2:=by
  unfold ZT Zd
  repeat first|rw [if_neg (by omega)]|rw [if_pos (by omega)]|rw [cond_true]|rw [cond_false]|rw [decide_eq_true (by omega),Bool.true_and]|rw [decide_eq_false (by omega),Bool.false_and]
 have HR:=hide hr;clear hr;have hv':(vs != 0)=true:=by rw [bne_iff_ne];exact hv
 have HV:=hide hv;clear hv;go_enter func56,ntmps56;go_wp2;go_ret2;exact ZI HR.out (by omega) (bA)
theorem IY(hv:vs=0)(hl:0<rs.length):
 Calls prog 56 #[.agg #[.int .i64 2,.int .i64 vs,.slice A rs.length c,.int .i64 Z0]] w (Zy (ZP 2 vs rs Z0) w):=by
 have hr:ZT 2 vs rs Z0=2:=by
  unfold ZT Zd
  repeat first|rw [if_neg (by omega)]|rw [if_pos (by omega)]|rw [cond_true]|rw [cond_false]|rw [decide_eq_true (by omega),Bool.true_and]|rw [decide_eq_false (by omega),Bool.false_and]
 have HR:=hide hr;clear hr;have hv':(vs != 0)=false:=by rw [bne_eq_false_iff_eq];exact hv
 have HV:=hide hv;clear hv;have hl':decide (0<rs.length)=true:=decide_eq_true hl;go_enter func56,ntmps56;go_wp2;go_ret2;exact ZI HR.out (by omega) (bA)
theorem IX(hv:vs=0)(hl:rs=[])(hp:Z0≠0):
 Calls prog 56 #[.agg #[.int .i64 2,.int .i64 vs,.slice A rs.length c,.int .i64 Z0]] w (Zy (ZP 2 vs rs Z0) w):=by
 have hr:ZT 2 vs rs Z0=2:=by
  unfold ZT Zd
  repeat first|rw [if_neg (by omega)]|rw [if_pos (by omega)]|rw [cond_true]|rw [cond_false]|rw [decide_eq_true (by omega),Bool.true_and]|rw [decide_eq_false (by omega),Bool.false_and]
 have HR:=hide hr;clear hr;have hv':(vs != 0)=false:=by rw [bne_eq_false_iff_eq];exact hv
 have HV:=hide hv;clear hv;subst hl;have hp':(Z0 != 0)=true:=by rw [bne_iff_ne];exact hp
 have HP:=hide hp;clear hp;go_enter func56,ntmps56;go_wp2;go_ret2;exact ZI HR.out (by omega) (bA)
theorem IL(hv:vs=0)(hl:rs=[])(hp:Z0=0):
 Calls prog 56 #[.agg #[.int .i64 1,.int .i64 vs,.slice A rs.length c,.int .i64 Z0]] w (Zy (ZP 1 vs rs Z0) w):=by
 have hf:ZP 1 vs rs Z0=(Zx 1 vs rs Z0,0):=by
  unfold ZP;rw [if_pos (WW (by omega) (by omega) (fun _=>hv) (by omega) (fun _=>hl) (by omega) (fun _=>hp) (by rw [hl];rfl))]
 rw [hf];subst hv hl hp;have HF:=hide hf;clear hf;go_enter func56,ntmps56;go_wp2;refine wp_loop_rounds 1 ?_;rw [rounds_succ];go_wp2;go_ret2;exact ⟨_,rfl,Yz (xs:=ZY [_]) (Z6.new2 _ _ _ _) (by omega) rfl (by unfold maxLen;omega),Z7 (bA) _⟩
theorem IW(hv:vs=0)(hl:rs=[])(hp:Z0=0):
 Calls prog 56 #[.agg #[.int .i64 2,.int .i64 vs,.slice A rs.length c,.int .i64 Z0]] w (Zy (ZP 2 vs rs Z0) w):=by
 have hf:ZP 2 vs rs Z0=(Zx 2 vs rs Z0,0):=by
  unfold ZP;rw [if_pos (WW (by omega) (by omega) (fun _=>hv) (by omega) (fun _=>hl) (by omega) (fun _=>hp) (by rw [hl];rfl))]
 rw [hf];subst hv hl hp;have HF:=hide hf;clear hf;go_enter func56,ntmps56;go_wp2;refine wp_loop_rounds 1 ?_;rw [rounds_succ];go_wp2;go_ret2;exact ⟨_,rfl,Yz (xs:=ZY [_]) (Z6.new2 _ _ _ _) (by omega) rfl (by unfold maxLen;omega),Z7 (bA) _⟩
end
end
section
open Go.RowKit
section
variable (vs:Int)(rs:List Rg)(A:Option Addr)(c:Nat)(Z0:Int)(w:World)
theorem I5(hv:vs<3):
 Calls prog 56 #[.agg #[.int .i64 3,.int .i64 vs,.slice A rs.length c,.int .i64 Z0]] w (Zy (ZP 3 vs rs Z0) w):=by
 have hr:ZT 3 vs rs Z0=6:=by
  unfold ZT Zd
  repeat first|rw [if_neg (by omega)]|rw [if_pos (by omega)]|rw [cond_true]|rw [cond_false]|rw [decide_eq_true (by omega),Bool.true_and]|rw [decide_eq_false (by omega),Bool.false_and]
 have HR:=hide hr;clear hr;go_enter func56,ntmps56;go_wp2;go_ret2;exact ZI HR.out (by omega) (bA)
theorem I4(hv:64<vs):
 Calls prog 56 #[.agg #[.int .i64 3,.int .i64 vs,.slice A rs.length c,.int .i64 Z0]] w (Zy (ZP 3 vs rs Z0) w):=by
 have hr:ZT 3 vs rs Z0=6:=by
  unfold ZT Zd
  repeat first|rw [if_neg (by omega)]|rw [if_pos (by omega)]|rw [cond_true]|rw [cond_false]|rw [decide_eq_true (by omega),Bool.true_and]|rw [decide_eq_false (by omega),Bool.false_and]
 have HR:=hide hr;clear hr;go_enter func56,ntmps56;go_wp2;go_ret2;exact ZI HR.out (by omega) (bA)
theorem I8(hv1:3<=vs)(hv2:vs<=64)(hl:0<rs.length):
 Calls prog 56 #[.agg #[.int .i64 3,.int .i64 vs,.slice A rs.length c,.int .i64 Z0]] w (Zy (ZP 3 vs rs Z0) w):=by
 have hr:ZT 3 vs rs Z0=2:=by
  unfold ZT Zd
  repeat first|rw [if_neg (by omega)]|rw [if_pos (by omega)]|rw [cond_true]|rw [cond_false]|rw [decide_eq_true (by omega),Bool.true_and]|rw [decide_eq_false (by omega),Bool.false_and]
 have HR:=hide hr;clear hr;have hl':decide (0<rs.length)=true:=decide_eq_true hl;go_enter func56,ntmps56;go_wp2;go_ret2;exact ZI HR.out (by omega) (bA)
theorem I7(hv1:3<=vs)(hv2:vs<=64)(hl:rs=[])(hp:Z0≠0):
 Calls prog 56 #[.agg #[.int .i64 3,.int .i64 vs,.slice A rs.length c,.int .i64 Z0]] w (Zy (ZP 3 vs rs Z0) w):=by
 have hr:ZT 3 vs rs Z0=2:=by
  unfold ZT Zd
  repeat first|rw [if_neg (by omega)]|rw [if_pos (by omega)]|rw [cond_true]|rw [cond_false]|rw [decide_eq_true (by omega),Bool.true_and]|rw [decide_eq_false (by omega),Bool.false_and]
 have HR:=hide hr;clear hr;subst hl;have hp':(Z0 != 0)=true:=by rw [bne_iff_ne];exact hp
 have HP:=hide hp;clear hp;go_enter func56,ntmps56;go_wp2;go_ret2;exact ZI HR.out (by omega) (bA)
theorem I6(hv1:3<=vs)(hv2:vs<=64)(hl:rs=[])(hp:Z0=0):
 Calls prog 56 #[.agg #[.int .i64 3,.int .i64 vs,.slice A rs.length c,.int .i64 Z0]] w (Zy (ZP 3 vs rs Z0) w):=by
 have hf:ZP 3 vs rs Z0=(Zx 3 vs rs Z0,0):=by
  unfold ZP;rw [if_pos (WW (by omega) (by omega) (by omega) (by omega) (fun _=>hl) (by omega) (fun _=>hp) (by rw [hl];rfl))]
 rw [hf];subst hl hp;have HF:=hide hf;clear hf;obtain ⟨i0,hi,hz0,hz1,hz2⟩:=info_parts Xt;go_enter func56,ntmps56;go_wp2_with (at_builtin;refine wpList_append_own _ rfl (.tmp 106) (.tmp 110) 49 rfl (w.heap.size+1) 5 i0 (.int .u8 0) 1 1 underlying49 hi hz0 ‹_› hz2 rfl (by decide) (.slice (some ⟨w.heap.size+1,0,none⟩) 1 1) 1 (ZY [3]) rfl ((Yz (Z6.new2 _ _ _ _) (Nat.le_refl _) rfl (by unfold maxLen;omega)).alloc _) ⟨w.heap.size+2,0,none⟩ 1 1 (ZY [vs]) rfl rfl ?c1 ?c2 ?c3 ?c4 ?c5 ?_)
 case c1 =>
  have h:=Z6.new2 (w.alloc (.cells #[.int .i64 3,.int .i64 vs,.slice A 0 c,.int .i64 0] 53)) (.cells #[.int .u8 3] 5) 5 #[.int .u8 vs];exact ZF (xs:=ZY [vs]) (by simp at h;exact h)
 case c2=>exact Y9 _
 case c3=>unfold maxLen;omega
 case c4=>omega
 case c5=>simp
 intro v2 w2 V6 Yb _;have hb2:Below w.heap.size w w2:=(Z7 (Z7 (bA) _) _).grown Yb (by simp;omega) (fun k hk=>by simp [Value.ownBlock] at hk;omega);have B1:=(((Z6.new w 53 #[.int .i64 3,.int .i64 vs,.slice A 0 c,.int .i64 0]).alloc (.cells #[.int .u8 3] 5)).alloc (.cells #[.int .u8 vs] 5)).grown Yb (by simp [Value.ownBlock]);have f0:=B1.q0 rfl;have f2:=B1.q2 rfl;have f3:=B1.q3 rfl;have HO:=hide V6;clear V6 Yb;go_wp2;refine wp_loop_rounds 1 ?_;rw [rounds_succ];go_wp2;go_ret2;exact ⟨_,rfl,Wh HO.out (by omega),hb2⟩
end
end
section
open Go.RowKit
section
variable (vs:Int)(rs:List Rg)(A:Option Addr)(c:Nat)(Z0:Int)(w:World)
theorem Ja(hl:rs.length<1):
 Calls prog 56 #[.agg #[.int .i64 4,.int .i64 vs,.slice A rs.length c,.int .i64 Z0]] w (Zy (ZP 4 vs rs Z0) w):=by
 have hr:ZT 4 vs rs Z0=6:=by
  unfold ZT Zd
  repeat first|rw [if_neg (by omega)]|rw [if_pos (by omega)]|rw [cond_true]|rw [cond_false]|rw [decide_eq_true (by omega),Bool.true_and]|rw [decide_eq_false (by omega),Bool.false_and]
 have HR:=hide hr;clear hr;go_enter func56,ntmps56;go_wp2;go_ret2;exact ZI HR.out (by omega) (bA)
theorem I9(hl:64<rs.length):
 Calls prog 56 #[.agg #[.int .i64 4,.int .i64 vs,.slice A rs.length c,.int .i64 Z0]] w (Zy (ZP 4 vs rs Z0) w):=by
 have hr:ZT 4 vs rs Z0=6:=by
  unfold ZT Zd
  repeat first|rw [if_neg (by omega)]|rw [if_pos (by omega)]|rw [cond_true]|rw [cond_false]|rw [decide_eq_true (by omega),Bool.true_and]|rw [decide_eq_false (by omega),Bool.false_and]
 have HR:=hide hr;clear hr;go_enter func56,ntmps56;go_wp2;go_ret2;exact ZI HR.out (by omega) (bA)
variable (hs:Sl w w.heap.size A (rgCells rs))
include hs
theorem KO(hl1:1<=rs.length)(hl2:rs.length<=64):
 Calls prog 56 #[.agg #[.int .i64 4,.int .i64 vs,.slice A rs.length c,.int .i64 Z0]] w (Zy (ZP 4 vs rs Z0) w):=by
 have dh:=hs.below (Z7 (Below.refl _ _) (.cells #[.int .i64 4,.int .i64 vs,.slice A rs.length c,.int .i64 Z0] 53));obtain ⟨i0,hi,hz0,hz1,hz2⟩:=info_parts Xt;go_enter func56,ntmps56;go_wp2
 go_loop [4] (fun i=>∃ k:Nat,k<=rs.length/\i=.int .i64 k/\(rs.take k).any Zt=false) (fun i=>rs.length - (intOf i).toNat)
 case atStart=>exact ⟨0,by omega,rfl,rfl⟩
 case round =>
  obtain ⟨k,hk,rfl,hany⟩:=hrel;have R6:=hide hany;clear hany
  by_cases hlt:k<rs.length
  · obtain ⟨r,hr⟩:∃ r,rs[k]?=some r:=⟨_,List.getElem?_eq_getElem hlt⟩;obtain ⟨b,off,rfl,hB,c0,c1,c2⟩:=dh.rg hr;have HRR:=hide hr;clear hr;go_wp2_with fail;refine (XO _ _).mono ?_;rintro e w' ⟨rfl,rfl⟩
    by_cases hsz:ZO r.v=0
    · have hw:rs.any Zt=true:=Yo _ _ _ _ HRR.out (by simp [Zt,hsz]);have hr:ZT 4 vs rs Z0=7:=by
       unfold ZT Zd;rw [hw]
       repeat first|rw [if_neg (by omega)]|rw [if_pos (by omega)]|rw [cond_true]|rw [cond_false]|rw [decide_eq_true (by omega),Bool.true_and]|rw [decide_eq_false (by omega),Bool.false_and]
      have HR:=hide hr;clear hr hw;go_wp2;go_ret2;exact ZI HR.out (by omega) (bA)
    · have hsz':(ZO r.v == 0)=false:=(by simpa using hsz);have Va:=hide hsz;clear hsz;go_wp2
      go_round
      case rel=>exact ⟨k+1,by omega,by go_num,by rw [any_take_succ _ _ _ _ HRR.out,R6.out];simp only [Zt,Bool.false_or];exact hsz'⟩
      case measure=>simp [intOf];omega
  · have hk':k=rs.length:=(by omega);subst hk';have hw:=R6.out;rw [List.take_length] at hw;have HW:=hide hw;clear hw
    by_cases hv:vs=0
    · by_cases hp:Z0=0
      · subst hv hp;go_wp2_with (at_builtin;refine wpList_append_own _ rfl (.tmp 115) (.tmp 120) 49 rfl (w.heap.size+1) 5 i0 (.int .u8 0) 1 1 underlying49 hi hz0 ‹_› hz2 rfl (by decide) (.slice (some ⟨w.heap.size+1,0,none⟩) 1 1) 1 (ZY [4]) rfl ((Yz (Z6.new2 _ _ _ _) (Nat.le_refl _) rfl (by unfold maxLen;omega)).alloc _) ⟨w.heap.size+2,0,none⟩ 1 1 (ZY [(rs.length:Int)]) rfl rfl ?c1 ?c2 ?c3 ?c4 ?c5 ?_)
        any_goals first
         | exact Y9 _
         | (unfold maxLen;omega)
         | omega
         | (simp;done)
         | (intro j u hu;simpa [ZY] using hu)
         | (have h:=Z6.new2 (w.alloc (.cells #[.int .i64 4,.int .i64 0,.slice A rs.length c,.int .i64 0] 53)) (.cells #[.int .u8 4] 5) 5 #[.int .u8 (rs.length:Int)]
            exact ZF (xs:=ZY [(rs.length:Int)]) (by simp at h;exact h))
        intro v2 w2 V6 Yb _;have hb2:Below w.heap.size w w2:=(Z7 (Z7 (bA) _) _).grown Yb (by simp;omega) (fun k hk=>by simp [Value.ownBlock] at hk;omega);have B2:=(((Z6.new w 53 #[.int .i64 4,.int .i64 0,.slice A rs.length c,.int .i64 0]).alloc (.cells #[.int .u8 4] 5)).alloc (.cells #[.int .u8 (rs.length:Int)] 5)).grown Yb (by simp [Value.ownBlock]);have f20:=B2.q0 rfl;have f22:=B2.q2 rfl;have hsl:=hs.below hb2;have hw2:=hb2.size;have zpb:w.heap.size<w2.heap.size:=B2.lt;clear Yb dh;go_wp2
        go_loopw [5,6,7] (fun v i _ wr=>∃ k:Nat,k<=rs.length/\i=.int .i64 k/\wr.ownsRow (w.heap.size+1) 5 1 v (2+k) (ZY ([4,(rs.length:Int)]++(rs.take k).map Zj))/\Below (w.heap.size+1) w2 wr/\(rs.take k).any Yq=false)
         (fun _ i _ _=>rs.length - (intOf i).toNat)
        case atStart=>exact ⟨0,by omega,rfl,by simpa [ZY] using V6,Below.refl _ _,rfl⟩
        case round =>
         obtain ⟨k,hk,rfl,ZL,hbr,hfull⟩:=hrel;have K5:=hide hfull;clear hfull;have hrs:=hbr.size;have g22:=(hbr.cell (p:=⟨w.heap.size,2,none⟩) (by simp)).trans f22;have g20:=(hbr.cell (p:=⟨w.heap.size,0,none⟩) (by simp)).trans f20
         by_cases hlt3:k<rs.length
         · obtain ⟨r,hr⟩:∃ r,rs[k]?=some r:=⟨_,List.getElem?_eq_getElem hlt3⟩;have hr0:=List.any_eq_false.1 HW.out r (List.mem_of_getElem? hr);have hrb:0<=r.v/\r.v<=64:=by
            unfold Zt ZO at hr0
            by_cases h0:r.v=0
            · omega
            · by_cases h3:3<=r.v/\r.v<=64
              · omega
              · rw [if_neg h0,if_neg h3] at hr0;simp at hr0
           clear hr0;obtain ⟨hr1,hr2⟩:=hrb;obtain ⟨b,off,rfl,hB,c0,c1,c2⟩:=(hsl.below (hbr.mono (by omega))).rg hr;have hts:(rs.take (k+1)).map Zj=(rs.take k).map Zj++[Zj r]:=(by rw [List.take_add_one,hr];simp);have HRR:=hide hr;clear hr;have Pz:=hide hts;clear hts
           by_cases hfl:0<r.n
           · have hf:rs.any Yq=true:=Yo _ _ _ _ HRR.out (by simp [Yq,hfl]);have hr:ZT 4 0 rs 0=2:=by
              unfold ZT Zd;rw [HW.out,hf,Bool.and_false]
              repeat first|rw [if_neg (by omega)]|rw [if_pos (by omega)]|rw [cond_true]|rw [cond_false]|rw [decide_eq_true (by omega),Bool.true_and]|rw [decide_eq_false (by omega),Bool.false_and]
             have HR:=hide hr;clear hr hf;have zpi:(0:Int)<(r.n:Int):=(by omega);go_wp2;go_ret2;exact ZI HR.out (by omega) (hb2.trans (hbr.mono (by omega)))
           · have hn0:r.n=0:=(by omega);have hnf:Yq r=false:=(by simp [Yq,hn0]);have jG:=hide hnf;clear hnf hfl;rw [hn0] at c2;have HN0:=hide hn0;clear hn0;obtain ⟨y,hy⟩:=eE (Zj r);cases hd:r.d
             · have hyv:y=r.v:=(by rw [hy];unfold Zj;rw [hd];simp);rw [hd] at c0;have HY:=hide hy;clear hy hd;subst hyv;go_wp2_with (at_builtin;refine wpList_append_own _ rfl (.tmp 151) (.tmp 154) 49 rfl (w.heap.size+1) 5 i0 (.int .u8 0) 1 1 underlying49 hi hz0 ‹_› hz2 rfl (by decide) _ (2+k) (ZY ([4,(rs.length:Int)]++(rs.take k).map Zj)) rfl (ZL.alloc _) ⟨wr.heap.size,0,none⟩ 1 1 (ZY [r.v]) rfl rfl ?d1 ?d2 ?d3 ?d4 ?d5 ?_)
               case d1=>exact ZF (Z6.new _ _ _)
               case d2=>exact Y9 _
               case d3=>unfold maxLen;omega
               case d4=>omega
               case d5=>simp;omega
               intro v3 w3 Zw Zo _;have hb3:Below (w.heap.size+1) w2 w3:=(hbr.alloc (by omega) _).grown Zo (by simp;omega) (fun k hk=>ZG ZL hk);have YO:w3.ownsRow (w.heap.size+1) 5 1 v3 (2+(k+1)) (ZY ([4,(rs.length:Int)]++(rs.take (k+1)).map Zj)):=by
                rw [Pz.out,<- HY.out];simp [ZY] at Zw ⊢;exact Zw
               have HO:=hide YO;clear Zw YO Zo;go_wp2;go_roundw
               case rel=>exact ⟨k+1,by omega,by go_num,HO.out,hb3,by rw [any_take_succ _ _ _ _ HRR.out,K5.out,jG.out];rfl⟩
               case measure=>simp [intOf];omega
             · have hyv:y=r.v+128:=(by rw [hy];unfold Zj;rw [hd];simp);rw [hd] at c0;have HY:=hide hy;clear hy hd;have aX:=hide hyv;clear hyv;go_wp2_with (at_builtin;refine wpList_append_own _ rfl (.tmp 151) (.tmp 154) 49 rfl (w.heap.size+1) 5 i0 (.int .u8 0) 1 1 underlying49 hi hz0 ‹_› hz2 rfl (by decide) _ (2+k) (ZY ([4,(rs.length:Int)]++(rs.take k).map Zj)) rfl (ZL.alloc _) ⟨wr.heap.size,0,none⟩ 1 1 (ZY [r.v+128]) rfl rfl ?d1 ?d2 ?d3 ?d4 ?d5 ?_)
               case d1=>exact ZF (Z6.new _ _ _)
               case d2=>exact Y9 _
               case d3=>unfold maxLen;omega
               case d4=>omega
               case d5=>simp;omega
               intro v3 w3 Zw Zo _;have hb3:Below (w.heap.size+1) w2 w3:=(hbr.alloc (by omega) _).grown Zo (by simp;omega) (fun k hk=>ZG ZL hk);have YO:w3.ownsRow (w.heap.size+1) 5 1 v3 (2+(k+1)) (ZY ([4,(rs.length:Int)]++(rs.take (k+1)).map Zj)):=by
                rw [Pz.out,<- HY.out,aX.out];simp [ZY] at Zw ⊢;exact Zw
               have HO:=hide YO;clear Zw YO Zo;go_wp2;go_roundw
               case rel=>exact ⟨k+1,by omega,by go_num,HO.out,hb3,by rw [any_take_succ _ _ _ _ HRR.out,K5.out,jG.out];rfl⟩
               case measure=>simp [intOf];omega
         · have hk':k=rs.length:=(by omega);subst hk';rw [List.take_length] at ZL;have hfull:=K5.out;rw [List.take_length] at hfull;have hf:ZP 4 0 rs 0=(Zx 4 0 rs 0,0):=by
            unfold ZP;rw [if_pos (WW (by omega) (by omega) (by omega) (fun _=>⟨by omega,by omega,HW.out⟩) (by omega) (by omega) (by omega) hfull)]
           have HF:=hide hf;clear hf hfull;go_wp2;go_ret2;rw [HF.out];refine ⟨_,rfl,?_,hb2.trans (hbr.mono (by omega))⟩;have h:=Wh ZL (base':=w.heap.size) (by omega);have hlf:(Zx 4 0 rs 0).length=2+rs.length:=(by simp [Zx];omega);dsimp only;rw [hlf];simp [Zx,ZY] at h ⊢;exact h
      · have hr:ZT 4 vs rs Z0=2:=by
         unfold ZT Zd;rw [HW.out,Bool.and_false]
         repeat first|rw [if_neg (by omega)]|rw [if_pos (by omega)]|rw [cond_true]|rw [cond_false]|rw [decide_eq_true (by omega),Bool.true_and]|rw [decide_eq_false (by omega),Bool.false_and]
        have HR:=hide hr;clear hr;have hp':(Z0 != 0)=true:=(by rw [bne_iff_ne];exact hp);have HP:=hide hp;clear hp;subst hv;go_wp2;go_ret2;exact ZI HR.out (by omega) (bA)
    · have hr:ZT 4 vs rs Z0=2:=by
       unfold ZT Zd;rw [HW.out,Bool.and_false]
       repeat first|rw [if_neg (by omega)]|rw [if_pos (by omega)]|rw [cond_true]|rw [cond_false]|rw [decide_eq_true (by omega),Bool.true_and]|rw [decide_eq_false (by omega),Bool.false_and]
      have HR:=hide hr;clear hr;have hv':(vs != 0)=true:=(by rw [bne_iff_ne];exact hv);have HV:=hide hv;clear hv;go_wp2;go_ret2;exact ZI HR.out (by omega) (bA)
end
end
section
open Go.RowKit
section
variable (vs:Int)(rs:List Rg)(A:Option Addr)(c:Nat)(Z0:Int)(w:World)
theorem Jc(hl:rs.length<1):
 Calls prog 56 #[.agg #[.int .i64 5,.int .i64 vs,.slice A rs.length c,.int .i64 Z0]] w (Zy (ZP 5 vs rs Z0) w):=by
 have hr:ZT 5 vs rs Z0=6:=by
  unfold ZT Zd
  repeat first|rw [if_neg (by omega)]|rw [if_pos (by omega)]|rw [cond_true]|rw [cond_false]|rw [decide_eq_true (by omega),Bool.true_and]|rw [decide_eq_false (by omega),Bool.false_and]
 have HR:=hide hr;clear hr;go_enter func56,ntmps56;go_wp2;go_ret2;exact ZI HR.out (by omega) (bA)
theorem Jb(hl:64<rs.length):
 Calls prog 56 #[.agg #[.int .i64 5,.int .i64 vs,.slice A rs.length c,.int .i64 Z0]] w (Zy (ZP 5 vs rs Z0) w):=by
 have hr:ZT 5 vs rs Z0=6:=by
  unfold ZT Zd
  repeat first|rw [if_neg (by omega)]|rw [if_pos (by omega)]|rw [cond_true]|rw [cond_false]|rw [decide_eq_true (by omega),Bool.true_and]|rw [decide_eq_false (by omega),Bool.false_and]
 have HR:=hide hr;clear hr;go_enter func56,ntmps56;go_wp2;go_ret2;exact ZI HR.out (by omega) (bA)
variable (hs:Sl w w.heap.size A (rgCells rs))
include hs
theorem KQ(hl1:1<=rs.length)(hl2:rs.length<=64):
 Calls prog 56 #[.agg #[.int .i64 5,.int .i64 vs,.slice A rs.length c,.int .i64 Z0]] w (Zy (ZP 5 vs rs Z0) w):=by
 have dh:=hs.below (Z7 (Below.refl _ _) (.cells #[.int .i64 5,.int .i64 vs,.slice A rs.length c,.int .i64 Z0] 53));obtain ⟨i0,hi,hz0,hz1,hz2⟩:=info_parts Xt;go_enter func56,ntmps56;go_wp2
 go_loop [4] (fun i=>∃ k:Nat,k<=rs.length/\i=.int .i64 k/\(rs.take k).any Zt=false) (fun i=>rs.length - (intOf i).toNat)
 case atStart=>exact ⟨0,by omega,rfl,rfl⟩
 case round =>
  obtain ⟨k,hk,rfl,hany⟩:=hrel;have R6:=hide hany;clear hany
  by_cases hlt:k<rs.length
  · obtain ⟨r,hr⟩:∃ r,rs[k]?=some r:=⟨_,List.getElem?_eq_getElem hlt⟩;obtain ⟨b,off,rfl,hB,c0,c1,c2⟩:=dh.rg hr;have HRR:=hide hr;clear hr;go_wp2_with fail;refine (XO _ _).mono ?_;rintro e w' ⟨rfl,rfl⟩
    by_cases hsz:ZO r.v=0
    · have hw:rs.any Zt=true:=Yo _ _ _ _ HRR.out (by simp [Zt,hsz]);have hr:ZT 5 vs rs Z0=7:=by
       unfold ZT Zd;rw [hw]
       repeat first|rw [if_neg (by omega)]|rw [if_pos (by omega)]|rw [cond_true]|rw [cond_false]|rw [decide_eq_true (by omega),Bool.true_and]|rw [decide_eq_false (by omega),Bool.false_and]
      have HR:=hide hr;clear hr hw;go_wp2;go_ret2;exact ZI HR.out (by omega) (bA)
    · have hsz':(ZO r.v == 0)=false:=(by simpa using hsz);have Va:=hide hsz;clear hsz;go_wp2
      go_round
      case rel=>exact ⟨k+1,by omega,by go_num,by rw [any_take_succ _ _ _ _ HRR.out,R6.out];simp only [Zt,Bool.false_or];exact hsz'⟩
      case measure=>simp [intOf];omega
  · have hk':k=rs.length:=(by omega);subst hk';have hw:=R6.out;rw [List.take_length] at hw;have HW:=hide hw;clear hw
    by_cases hp1:Z0<1
    · have hr:ZT 5 vs rs Z0=6:=by
       unfold ZT Zd;rw [HW.out,Bool.and_false]
       repeat first|rw [if_neg (by omega)]|rw [if_pos (by omega)]|rw [cond_true]|rw [cond_false]|rw [decide_eq_true (by omega),Bool.true_and]|rw [decide_eq_false (by omega),Bool.false_and]
      have HR:=hide hr;clear hr;go_wp2;go_ret2;exact ZI HR.out (by omega) (bA)
    by_cases hp2:4096<Z0
    · have hr:ZT 5 vs rs Z0=6:=by
       unfold ZT Zd;rw [HW.out,Bool.and_false]
       repeat first|rw [if_neg (by omega)]|rw [if_pos (by omega)]|rw [cond_true]|rw [cond_false]|rw [decide_eq_true (by omega),Bool.true_and]|rw [decide_eq_false (by omega),Bool.false_and]
      have HR:=hide hr;clear hr;go_wp2;go_ret2;exact ZI HR.out (by omega) (bA)
    have hq1:1<=Z0:=(by omega);have hq2:Z0<=4096:=(by omega);clear hp1 hp2
    by_cases hv:vs=0
    · subst hv;go_wp2_with (at_builtin;refine wpList_append_own _ rfl (.tmp 115) (.tmp 120) 49 rfl (w.heap.size+1) 5 i0 (.int .u8 0) 1 1 underlying49 hi hz0 ‹_› hz2 rfl (by decide) (.slice (some ⟨w.heap.size+1,0,none⟩) 1 1) 1 (ZY [5]) rfl ((Yz (Z6.new2 _ _ _ _) (Nat.le_refl _) rfl (by unfold maxLen;omega)).alloc _) ⟨w.heap.size+2,0,none⟩ 1 1 (ZY [(rs.length:Int)]) rfl rfl ?c1 ?c2 ?c3 ?c4 ?c5 ?_)
      any_goals first
       | exact Y9 _
       | (unfold maxLen;omega)
       | omega
       | (simp;done)
       | (intro j u hu;simpa [ZY] using hu)
       | (have h:=Z6.new2 (w.alloc (.cells #[.int .i64 5,.int .i64 0,.slice A rs.length c,.int .i64 Z0] 53)) (.cells #[.int .u8 5] 5) 5 #[.int .u8 (rs.length:Int)]
          exact ZF (xs:=ZY [(rs.length:Int)]) (by simp at h;exact h))
      intro v2 w2 V6 Yb _;have hb2:Below w.heap.size w w2:=(Z7 (Z7 (bA) _) _).grown Yb (by simp;omega) (fun k hk=>by simp [Value.ownBlock] at hk;omega);have B2:=(((Z6.new w 53 #[.int .i64 5,.int .i64 0,.slice A rs.length c,.int .i64 Z0]).alloc (.cells #[.int .u8 5] 5)).alloc (.cells #[.int .u8 (rs.length:Int)] 5)).grown Yb (by simp [Value.ownBlock]);have f20:=B2.q0 rfl;have f22:=B2.q2 rfl;have hsl:=hs.below hb2;have hw2:=hb2.size;have zpb:w.heap.size<w2.heap.size:=B2.lt;clear Yb dh;go_wp2
      go_loopw [5,6,7] (fun v i _ wr=>∃ k:Nat,k<=rs.length/\i=.int .i64 k/\wr.ownsRow (w.heap.size+1) 5 1 v (2+k) (ZY ([5,(rs.length:Int)]++(rs.take k).map Zj))/\Below (w.heap.size+1) w2 wr/\(rs.take k).any Yq=false)
       (fun _ i _ _=>rs.length - (intOf i).toNat)
      case atStart=>exact ⟨0,by omega,rfl,by simpa [ZY] using V6,Below.refl _ _,rfl⟩
      case round =>
       obtain ⟨k,hk,rfl,ZL,hbr,hfull⟩:=hrel;have K5:=hide hfull;clear hfull;have hrs:=hbr.size;have g22:=(hbr.cell (p:=⟨w.heap.size,2,none⟩) (by simp)).trans f22;have g20:=(hbr.cell (p:=⟨w.heap.size,0,none⟩) (by simp)).trans f20
       by_cases hlt3:k<rs.length
       · obtain ⟨r,hr⟩:∃ r,rs[k]?=some r:=⟨_,List.getElem?_eq_getElem hlt3⟩;have hr0:=List.any_eq_false.1 HW.out r (List.mem_of_getElem? hr);have hrb:0<=r.v/\r.v<=64:=by
          unfold Zt ZO at hr0
          by_cases h0:r.v=0
          · omega
          · by_cases h3:3<=r.v/\r.v<=64
            · omega
            · rw [if_neg h0,if_neg h3] at hr0;simp at hr0
         clear hr0;obtain ⟨hr1,hr2⟩:=hrb;obtain ⟨b,off,rfl,hB,c0,c1,c2⟩:=(hsl.below (hbr.mono (by omega))).rg hr;have hts:(rs.take (k+1)).map Zj=(rs.take k).map Zj++[Zj r]:=(by rw [List.take_add_one,hr];simp);have HRR:=hide hr;clear hr;have Pz:=hide hts;clear hts
         by_cases hfl:0<r.n
         · have hf:rs.any Yq=true:=Yo _ _ _ _ HRR.out (by simp [Yq,hfl]);have hr:ZT 5 0 rs Z0=2:=by
            unfold ZT Zd;rw [HW.out,hf,Bool.and_false]
            repeat first|rw [if_neg (by omega)]|rw [if_pos (by omega)]|rw [cond_true]|rw [cond_false]|rw [decide_eq_true (by omega),Bool.true_and]|rw [decide_eq_false (by omega),Bool.false_and]
           have HR:=hide hr;clear hr hf;have zpi:(0:Int)<(r.n:Int):=(by omega);go_wp2;go_ret2;exact ZI HR.out (by omega) (hb2.trans (hbr.mono (by omega)))
         · have hn0:r.n=0:=(by omega);have hnf:Yq r=false:=(by simp [Yq,hn0]);have jG:=hide hnf;clear hnf hfl;rw [hn0] at c2;have HN0:=hide hn0;clear hn0;obtain ⟨y,hy⟩:=eE (Zj r);cases hd:r.d
           · have hyv:y=r.v:=(by rw [hy];unfold Zj;rw [hd];simp);rw [hd] at c0;have HY:=hide hy;clear hy hd;subst hyv;go_wp2_with (at_builtin;refine wpList_append_own _ rfl (.tmp 151) (.tmp 154) 49 rfl (w.heap.size+1) 5 i0 (.int .u8 0) 1 1 underlying49 hi hz0 ‹_› hz2 rfl (by decide) _ (2+k) (ZY ([5,(rs.length:Int)]++(rs.take k).map Zj)) rfl (ZL.alloc _) ⟨wr.heap.size,0,none⟩ 1 1 (ZY [r.v]) rfl rfl ?d1 ?d2 ?d3 ?d4 ?d5 ?_)
             case d1=>exact ZF (Z6.new _ _ _)
             case d2=>exact Y9 _
             case d3=>unfold maxLen;omega
             case d4=>omega
             case d5=>simp;omega
             intro v3 w3 Zw Zo _;have hb3:Below (w.heap.size+1) w2 w3:=(hbr.alloc (by omega) _).grown Zo (by simp;omega) (fun k hk=>ZG ZL hk);have YO:w3.ownsRow (w.heap.size+1) 5 1 v3 (2+(k+1)) (ZY ([5,(rs.length:Int)]++(rs.take (k+1)).map Zj)):=by
              rw [Pz.out,<- HY.out];simp [ZY] at Zw ⊢;exact Zw
             have HO:=hide YO;clear Zw YO Zo;go_wp2;go_roundw
             case rel=>exact ⟨k+1,by omega,by go_num,HO.out,hb3,by rw [any_take_succ _ _ _ _ HRR.out,K5.out,jG.out];rfl⟩
             case measure=>simp [intOf];omega
           · have hyv:y=r.v+128:=(by rw [hy];unfold Zj;rw [hd];simp);rw [hd] at c0;have HY:=hide hy;clear hy hd;have aX:=hide hyv;clear hyv;go_wp2_with (at_builtin;refine wpList_append_own _ rfl (.tmp 151) (.tmp 154) 49 rfl (w.heap.size+1) 5 i0 (.int .u8 0) 1 1 underlying49 hi hz0 ‹_› hz2 rfl (by decide) _ (2+k) (ZY ([5,(rs.length:Int)]++(rs.take k).map Zj)) rfl (ZL.alloc _) ⟨wr.heap.size,0,none⟩ 1 1 (ZY [r.v+128]) rfl rfl ?d1 ?d2 ?d3 ?d4 ?d5 ?_)
             case d1=>exact ZF (Z6.new _ _ _)
             case d2=>exact Y9 _
             case d3=>unfold maxLen;omega
             case d4=>omega
             case d5=>simp;omega
             intro v3 w3 Zw Zo _;have hb3:Below (w.heap.size+1) w2 w3:=(hbr.alloc (by omega) _).grown Zo (by simp;omega) (fun k hk=>ZG ZL hk);have YO:w3.ownsRow (w.heap.size+1) 5 1 v3 (2+(k+1)) (ZY ([5,(rs.length:Int)]++(rs.take (k+1)).map Zj)):=by
              rw [Pz.out,<- HY.out,aX.out];simp [ZY] at Zw ⊢;exact Zw
             have HO:=hide YO;clear Zw YO Zo;go_wp2;go_roundw
             case rel=>exact ⟨k+1,by omega,by go_num,HO.out,hb3,by rw [any_take_succ _ _ _ _ HRR.out,K5.out,jG.out];rfl⟩
             case measure=>simp [intOf];omega
       · have hk':k=rs.length:=(by omega);subst hk';rw [List.take_length] at ZL;have hfull:=K5.out;rw [List.take_length] at hfull;have hf:ZP 5 0 rs Z0=(Zx 5 0 rs Z0,0):=by
          unfold ZP;rw [if_pos (WW (by omega) (by omega) (by omega) (fun _=>⟨by omega,by omega,HW.out⟩) (by omega) (by omega) (by omega) hfull)]
         have HF:=hide hf;clear hf hfull;have g23:=(hbr.cell (p:=⟨w.heap.size,3,none⟩) (by simp)).trans (B2.q3 rfl);go_wp2_with (at_builtin;refine wpList_append_own _ rfl (.tmp 159) (.tmp 168) 49 rfl (w.heap.size+1) 5 i0 (.int .u8 0) 1 1 underlying49 hi hz0 ‹_› hz2 rfl (by decide) _ (2+rs.length) (ZY ([5,(rs.length:Int)]++rs.map Zj)) rfl (ZL.alloc _) ⟨wr.heap.size,0,none⟩ 2 2 (ZY [Z0 % 256,Z0 / 256]) rfl rfl ?g1 ?g2 ?g3 ?g4 ?g5 ?_)
         case g1=>exact ZF (Z6.new _ _ _)
         case g2=>exact Y9 _
         case g3=>unfold maxLen;omega
         case g4=>omega
         case g5=>simp;omega
         intro v3 w3 Zw Zo _;have hb3:Below w.heap.size w w3:=((hb2.trans (hbr.mono (by omega))).alloc (by omega) _).grown Zo (by simp;omega) (fun k hk=>by have:=ZG ZL hk;omega);have HO:=hide Zw;clear Zw Zo;go_wp2;go_ret2;rw [HF.out];refine ⟨_,rfl,?_,hb3⟩;have h:=Wh HO.out (base':=w.heap.size) (by omega);have hlf:(Zx 5 0 rs Z0).length=2+rs.length+2:=(by simp [Zx];omega);dsimp only;rw [hlf];simp [Zx,ZY] at h ⊢;exact h
    · have hr:ZT 5 vs rs Z0=2:=by
       unfold ZT Zd;rw [HW.out,Bool.and_false]
       repeat first|rw [if_neg (by omega)]|rw [if_pos (by omega)]|rw [cond_true]|rw [cond_false]|rw [decide_eq_true (by omega),Bool.true_and]|rw [decide_eq_false (by omega),Bool.false_and]
      have HR:=hide hr;clear hr;have hv':(vs != 0)=true:=(by rw [bne_iff_ne];exact hv);have HV:=hide hv;clear hv;go_wp2;go_ret2;exact ZI HR.out (by omega) (bA)
end
end
section
open Go.RowKit
theorem SL(op vs Z0:Int)(rs:List Rg)(A:Option Addr)(c:Nat)(w:World)(hs:Sl w w.heap.size A (rgCells rs)):
 Calls prog 56 #[.agg #[.int .i64 op,.int .i64 vs,.slice A rs.length c,.int .i64 Z0]] w (Zy (ZP op vs rs Z0) w):=by
 by_cases h0:op<1\/5<op
 · exact Gp vs rs A c Z0 w op h0
 by_cases h1:op=1
 · subst h1
   by_cases hv:vs=0
   · rcases Nat.eq_zero_or_pos rs.length with hl|hl
     · have hl':=List.eq_nil_of_length_eq_zero hl
       by_cases hp:Z0=0
       · exact IL vs rs A c Z0 w hv hl' hp
       · exact IQ vs rs A c Z0 w hv hl' hp
     · exact IU vs rs A c Z0 w hv hl
   · exact IV vs rs A c Z0 w hv
 by_cases h2:op=2
 · subst h2
   by_cases hv:vs=0
   · rcases Nat.eq_zero_or_pos rs.length with hl|hl
     · have hl':=List.eq_nil_of_length_eq_zero hl
       by_cases hp:Z0=0
       · exact IW vs rs A c Z0 w hv hl' hp
       · exact IX vs rs A c Z0 w hv hl' hp
     · exact IY vs rs A c Z0 w hv hl
   · exact IZ vs rs A c Z0 w hv
 by_cases h3:op=3
 · subst h3
   by_cases hv:vs<3
   · exact I5 vs rs A c Z0 w hv
   by_cases hv2:64<vs
   · exact I4 vs rs A c Z0 w hv2
   rcases Nat.eq_zero_or_pos rs.length with hl|hl
   · have hl':=List.eq_nil_of_length_eq_zero hl
     by_cases hp:Z0=0
     · exact I6 vs rs A c Z0 w (by omega) (by omega) hl' hp
     · exact I7 vs rs A c Z0 w (by omega) (by omega) hl' hp
   · exact I8 vs rs A c Z0 w (by omega) (by omega) hl
 by_cases h4:op=4
 · subst h4
   by_cases hl:rs.length<1
   · exact Ja vs rs A c Z0 w hl
   by_cases hl2:64<rs.length
   · exact I9 vs rs A c Z0 w hl2
   · exact KO vs rs A c Z0 w hs (by omega) (by omega)
 · have h5:op=5:=(by omega);subst h5
   by_cases hl:rs.length<1
   · exact Jc vs rs A c Z0 w hl
   by_cases hl2:64<rs.length
   · exact Jb vs rs A c Z0 w hl2
   · exact KQ vs rs A c Z0 w hs (by omega) (by omega)
end
end Go.Proofs.YthnenedoblncjaaGreatDoor