/- RefFormatAny -/
import Derived.Test.YtfljlmleiggmjaaGreatDoorPkD03
set_option maxRecDepth 1000000
set_option maxHeartbeats 8000000
namespace Go.Proofs.YtfljlmleiggmjaaGreatDoor
open Go.Proofs.Tryz
section
open Go.RowKit
theorem Dz{op vs Z0:Int}{rs:List Rg}{e:Int}(h:ZT op vs rs Z0=e)(he:e≠0):ZK op vs rs Z0=([],e):=by unfold ZK;rw [h,if_neg he]
theorem ZB{op vs Z0:Int}{rs:List Rg}{e:Int}{w w':World}(h:ZT op vs rs Z0=e)(he:e≠0)(hb:Below w.heap.size w w'):
 Zr (ZK op vs rs Z0) w (.returned (.tuple #[.slice none 0 0,.int .i64 e])) w':=by
 rw [Dz h he];exact ⟨_,rfl,World.ownsRow_nil _ _ _ _,hb⟩
section
variable (vs:Int)(rs:List Rg)(A:Option Addr)(c:Nat)(Z0:Int)(w:World)
theorem Ew(op:Int)(hop:op<1\/5<op):
 Calls prog 21 #[.agg #[.int .i64 op,.int .i64 vs,.slice A rs.length c,.int .i64 Z0]] w (Zr (ZK op vs rs Z0) w):=by
 have hr:ZT op vs rs Z0=5:=by unfold ZT Y8;rw [if_pos hop]
 have HR:=hide hr;clear hr;rcases hop with hop|hop
 all_goals
  go_enter func21,ntmps21;go_wp2;go_ret2;exact ZB HR.out (by omega) (bA)
variable (hs:Sl w w.heap.size A (rgCells rs))(hn:rs.length<=maxLen)
theorem Gg(hv:vs≠0):
 Calls prog 21 #[.agg #[.int .i64 1,.int .i64 vs,.slice A rs.length c,.int .i64 Z0]] w (Zr (ZK 1 vs rs Z0) w):=by
 have hr:ZT 1 vs rs Z0=2:=by
  unfold ZT Y8
  repeat first|rw [if_neg (by omega)]|rw [if_pos (by omega)]|rw [cond_true]|rw [cond_false]|rw [decide_eq_true (by omega),Bool.true_and]|rw [decide_eq_false (by omega),Bool.false_and]
 have HR:=hide hr;clear hr;have hv':(vs != 0)=true:=by rw [bne_iff_ne];exact hv
 have HV:=hide hv;clear hv;go_enter func21,ntmps21;go_wp2;go_ret2;exact ZB HR.out (by omega) (bA)
theorem Gf(hv:vs=0)(hl:0<rs.length):
 Calls prog 21 #[.agg #[.int .i64 1,.int .i64 vs,.slice A rs.length c,.int .i64 Z0]] w (Zr (ZK 1 vs rs Z0) w):=by
 have hr:ZT 1 vs rs Z0=2:=by
  unfold ZT Y8
  repeat first|rw [if_neg (by omega)]|rw [if_pos (by omega)]|rw [cond_true]|rw [cond_false]|rw [decide_eq_true (by omega),Bool.true_and]|rw [decide_eq_false (by omega),Bool.false_and]
 have HR:=hide hr;clear hr;have hv':(vs != 0)=false:=by rw [bne_eq_false_iff_eq];exact hv
 have HV:=hide hv;clear hv;have hl':decide (0<rs.length)=true:=decide_eq_true hl;go_enter func21,ntmps21;go_wp2;go_ret2;exact ZB HR.out (by omega) (bA)
theorem Gc(hv:vs=0)(hl:rs=[])(hp:Z0≠0):
 Calls prog 21 #[.agg #[.int .i64 1,.int .i64 vs,.slice A rs.length c,.int .i64 Z0]] w (Zr (ZK 1 vs rs Z0) w):=by
 have hr:ZT 1 vs rs Z0=2:=by
  unfold ZT Y8
  repeat first|rw [if_neg (by omega)]|rw [if_pos (by omega)]|rw [cond_true]|rw [cond_false]|rw [decide_eq_true (by omega),Bool.true_and]|rw [decide_eq_false (by omega),Bool.false_and]
 have HR:=hide hr;clear hr;have hv':(vs != 0)=false:=by rw [bne_eq_false_iff_eq];exact hv
 have HV:=hide hv;clear hv;subst hl;have hp':(Z0 != 0)=true:=by rw [bne_iff_ne];exact hp
 have HP:=hide hp;clear hp;go_enter func21,ntmps21;go_wp2;go_ret2;exact ZB HR.out (by omega) (bA)
theorem Gl(hv:vs≠0):
 Calls prog 21 #[.agg #[.int .i64 2,.int .i64 vs,.slice A rs.length c,.int .i64 Z0]] w (Zr (ZK 2 vs rs Z0) w):=by
 have hr:ZT 2 vs rs Z0=2:=by
  unfold ZT Y8
  repeat first|rw [if_neg (by omega)]|rw [if_pos (by omega)]|rw [cond_true]|rw [cond_false]|rw [decide_eq_true (by omega),Bool.true_and]|rw [decide_eq_false (by omega),Bool.false_and]
 have HR:=hide hr;clear hr;have hv':(vs != 0)=true:=by rw [bne_iff_ne];exact hv
 have HV:=hide hv;clear hv;go_enter func21,ntmps21;go_wp2;go_ret2;exact ZB HR.out (by omega) (bA)
theorem Gj(hv:vs=0)(hl:0<rs.length):
 Calls prog 21 #[.agg #[.int .i64 2,.int .i64 vs,.slice A rs.length c,.int .i64 Z0]] w (Zr (ZK 2 vs rs Z0) w):=by
 have hr:ZT 2 vs rs Z0=2:=by
  unfold ZT Y8
  repeat first|rw [if_neg (by omega)]|rw [if_pos (by omega)]|rw [cond_true]|rw [cond_false]|rw [decide_eq_true (by omega),Bool.true_and]|rw [decide_eq_false (by omega),Bool.false_and]
 have HR:=hide hr;clear hr;have hv':(vs != 0)=false:=by rw [bne_eq_false_iff_eq];exact hv
 have HV:=hide hv;clear hv;have hl':decide (0<rs.length)=true:=decide_eq_true hl;go_enter func21,ntmps21;go_wp2;go_ret2;exact ZB HR.out (by omega) (bA)
theorem Gi(hv:vs=0)(hl:rs=[])(hp:Z0≠0):
 Calls prog 21 #[.agg #[.int .i64 2,.int .i64 vs,.slice A rs.length c,.int .i64 Z0]] w (Zr (ZK 2 vs rs Z0) w):=by
 have hr:ZT 2 vs rs Z0=2:=by
  unfold ZT Y8
  repeat first|rw [if_neg (by omega)]|rw [if_pos (by omega)]|rw [cond_true]|rw [cond_false]|rw [decide_eq_true (by omega),Bool.true_and]|rw [decide_eq_false (by omega),Bool.false_and]
 have HR:=hide hr;clear hr;have hv':(vs != 0)=false:=by rw [bne_eq_false_iff_eq];exact hv
 have HV:=hide hv;clear hv;subst hl;have hp':(Z0 != 0)=true:=by rw [bne_iff_ne];exact hp
 have HP:=hide hp;clear hp;go_enter func21,ntmps21;go_wp2;go_ret2;exact ZB HR.out (by omega) (bA)
theorem Gb(hv:vs=0)(hl:rs=[])(hp:Z0=0):
 Calls prog 21 #[.agg #[.int .i64 1,.int .i64 vs,.slice A rs.length c,.int .i64 Z0]] w (Zr (ZK 1 vs rs Z0) w):=by
 have hf:ZK 1 vs rs Z0=(Zo 1 vs rs Z0,0):=by
  unfold ZK;rw [if_pos (Wv (by omega) (by omega) (fun _=>hv) (by omega) (fun _=>hl) (by omega) (fun _=>hp) (by rw [hl];rfl))]
 rw [hf];subst hv hl hp;have HF:=hide hf;clear hf;go_enter func21,ntmps21;go_wp2;refine wp_loop_rounds 1 ?_;rw [rounds_succ];go_wp2;go_ret2;exact ⟨_,rfl,Yt (xs:=ZY [_]) (Z6.new2 _ _ _ _) (by omega) rfl (by unfold maxLen;omega),Z7 (bA) _⟩
theorem Gh(hv:vs=0)(hl:rs=[])(hp:Z0=0):
 Calls prog 21 #[.agg #[.int .i64 2,.int .i64 vs,.slice A rs.length c,.int .i64 Z0]] w (Zr (ZK 2 vs rs Z0) w):=by
 have hf:ZK 2 vs rs Z0=(Zo 2 vs rs Z0,0):=by
  unfold ZK;rw [if_pos (Wv (by omega) (by omega) (fun _=>hv) (by omega) (fun _=>hl) (by omega) (fun _=>hp) (by rw [hl];rfl))]
 rw [hf];subst hv hl hp;have HF:=hide hf;clear hf;go_enter func21,ntmps21;go_wp2;refine wp_loop_rounds 1 ?_;rw [rounds_succ];go_wp2;go_ret2;exact ⟨_,rfl,Yt (xs:=ZY [_]) (Z6.new2 _ _ _ _) (by omega) rfl (by unfold maxLen;omega),Z7 (bA) _⟩
end
end
section
open Go.RowKit
section
variable (vs:Int)(rs:List Rg)(A:Option Addr)(c:Nat)(Z0:Int)(w:World)
theorem Gn(hv:vs<3):
 Calls prog 21 #[.agg #[.int .i64 3,.int .i64 vs,.slice A rs.length c,.int .i64 Z0]] w (Zr (ZK 3 vs rs Z0) w):=by
 have hr:ZT 3 vs rs Z0=6:=by
  unfold ZT Y8
  repeat first|rw [if_neg (by omega)]|rw [if_pos (by omega)]|rw [cond_true]|rw [cond_false]|rw [decide_eq_true (by omega),Bool.true_and]|rw [decide_eq_false (by omega),Bool.false_and]
 have HR:=hide hr;clear hr;go_enter func21,ntmps21;go_wp2;go_ret2;exact ZB HR.out (by omega) (bA)
theorem Gm(hv:64<vs):
 Calls prog 21 #[.agg #[.int .i64 3,.int .i64 vs,.slice A rs.length c,.int .i64 Z0]] w (Zr (ZK 3 vs rs Z0) w):=by
 have hr:ZT 3 vs rs Z0=6:=by
  unfold ZT Y8
  repeat first|rw [if_neg (by omega)]|rw [if_pos (by omega)]|rw [cond_true]|rw [cond_false]|rw [decide_eq_true (by omega),Bool.true_and]|rw [decide_eq_false (by omega),Bool.false_and]
 have HR:=hide hr;clear hr;go_enter func21,ntmps21;go_wp2;go_ret2;exact ZB HR.out (by omega) (bA)
theorem Gs(hv1:3<=vs)(hv2:vs<=64)(hl:0<rs.length):
 Calls prog 21 #[.agg #[.int .i64 3,.int .i64 vs,.slice A rs.length c,.int .i64 Z0]] w (Zr (ZK 3 vs rs Z0) w):=by
 have hr:ZT 3 vs rs Z0=2:=by
  unfold ZT Y8
  repeat first|rw [if_neg (by omega)]|rw [if_pos (by omega)]|rw [cond_true]|rw [cond_false]|rw [decide_eq_true (by omega),Bool.true_and]|rw [decide_eq_false (by omega),Bool.false_and]
 have HR:=hide hr;clear hr;have hl':decide (0<rs.length)=true:=decide_eq_true hl;go_enter func21,ntmps21;go_wp2;go_ret2;exact ZB HR.out (by omega) (bA)
theorem Gq(hv1:3<=vs)(hv2:vs<=64)(hl:rs=[])(hp:Z0≠0):
 Calls prog 21 #[.agg #[.int .i64 3,.int .i64 vs,.slice A rs.length c,.int .i64 Z0]] w (Zr (ZK 3 vs rs Z0) w):=by
 have hr:ZT 3 vs rs Z0=2:=by
  unfold ZT Y8
  repeat first|rw [if_neg (by omega)]|rw [if_pos (by omega)]|rw [cond_true]|rw [cond_false]|rw [decide_eq_true (by omega),Bool.true_and]|rw [decide_eq_false (by omega),Bool.false_and]
 have HR:=hide hr;clear hr;subst hl;have hp':(Z0 != 0)=true:=by rw [bne_iff_ne];exact hp
 have HP:=hide hp;clear hp;go_enter func21,ntmps21;go_wp2;go_ret2;exact ZB HR.out (by omega) (bA)
theorem Gp(hv1:3<=vs)(hv2:vs<=64)(hl:rs=[])(hp:Z0=0):
 Calls prog 21 #[.agg #[.int .i64 3,.int .i64 vs,.slice A rs.length c,.int .i64 Z0]] w (Zr (ZK 3 vs rs Z0) w):=by
 have hf:ZK 3 vs rs Z0=(Zo 3 vs rs Z0,0):=by
  unfold ZK;rw [if_pos (Wv (by omega) (by omega) (by omega) (by omega) (fun _=>hl) (by omega) (fun _=>hp) (by rw [hl];rfl))]
 rw [hf];subst hl hp;have HF:=hide hf;clear hf;obtain ⟨i0,hi,hz0,hz1,hz2⟩:=info_parts WB;go_enter func21,ntmps21;go_wp2_with (at_builtin;refine wpList_append_own _ rfl (.tmp 106) (.tmp 110) 36 rfl (w.heap.size+1) 5 i0 (.int .u8 0) 1 1 underlying36 hi hz0 ‹_› hz2 rfl (by decide) (.slice (some ⟨w.heap.size+1,0,none⟩) 1 1) 1 (ZY [3]) rfl ((Yt (Z6.new2 _ _ _ _) (Nat.le_refl _) rfl (by unfold maxLen;omega)).alloc _) ⟨w.heap.size+2,0,none⟩ 1 1 (ZY [vs]) rfl rfl ?c1 ?c2 ?c3 ?c4 ?c5 ?_)
 case c1 =>
  have h:=Z6.new2 (w.alloc (.cells #[.int .i64 3,.int .i64 vs,.slice A 0 c,.int .i64 0] 24)) (.cells #[.int .u8 3] 5) 5 #[.int .u8 vs];exact ZI (xs:=ZY [vs]) (by simp at h;exact h)
 case c2=>exact YW _
 case c3=>unfold maxLen;omega
 case c4=>omega
 case c5=>simp
 intro v2 w2 Zj Yj _;have hb2:Below w.heap.size w w2:=(Z7 (Z7 (bA) _) _).grown Yj (by simp;omega) (fun k hk=>by simp [Value.ownBlock] at hk;omega);have B1:=(((Z6.new w 24 #[.int .i64 3,.int .i64 vs,.slice A 0 c,.int .i64 0]).alloc (.cells #[.int .u8 3] 5)).alloc (.cells #[.int .u8 vs] 5)).grown Yj (by simp [Value.ownBlock]);have f0:=B1.q0 rfl;have f2:=B1.q2 rfl;have f3:=B1.q3 rfl;have HO:=hide Zj;clear Zj Yj;go_wp2;refine wp_loop_rounds 1 ?_;rw [rounds_succ];go_wp2;go_ret2;exact ⟨_,rfl,VH HO.out (by omega),hb2⟩
end
end
section
open Go.RowKit
section
variable (vs:Int)(rs:List Rg)(A:Option Addr)(c:Nat)(Z0:Int)(w:World)
theorem Gu(hl:rs.length<1):
 Calls prog 21 #[.agg #[.int .i64 4,.int .i64 vs,.slice A rs.length c,.int .i64 Z0]] w (Zr (ZK 4 vs rs Z0) w):=by
 have hr:ZT 4 vs rs Z0=6:=by
  unfold ZT Y8
  repeat first|rw [if_neg (by omega)]|rw [if_pos (by omega)]|rw [cond_true]|rw [cond_false]|rw [decide_eq_true (by omega),Bool.true_and]|rw [decide_eq_false (by omega),Bool.false_and]
 have HR:=hide hr;clear hr;go_enter func21,ntmps21;go_wp2;go_ret2;exact ZB HR.out (by omega) (bA)
theorem Gt(hl:64<rs.length):
 Calls prog 21 #[.agg #[.int .i64 4,.int .i64 vs,.slice A rs.length c,.int .i64 Z0]] w (Zr (ZK 4 vs rs Z0) w):=by
 have hr:ZT 4 vs rs Z0=6:=by
  unfold ZT Y8
  repeat first|rw [if_neg (by omega)]|rw [if_pos (by omega)]|rw [cond_true]|rw [cond_false]|rw [decide_eq_true (by omega),Bool.true_and]|rw [decide_eq_false (by omega),Bool.false_and]
 have HR:=hide hr;clear hr;go_enter func21,ntmps21;go_wp2;go_ret2;exact ZB HR.out (by omega) (bA)
variable (hs:Sl w w.heap.size A (rgCells rs))
include hs
theorem JB(hl1:1<=rs.length)(hl2:rs.length<=64):
 Calls prog 21 #[.agg #[.int .i64 4,.int .i64 vs,.slice A rs.length c,.int .i64 Z0]] w (Zr (ZK 4 vs rs Z0) w):=by
 have hsW:=hs.below (Z7 (Below.refl _ _) (.cells #[.int .i64 4,.int .i64 vs,.slice A rs.length c,.int .i64 Z0] 24));obtain ⟨i0,hi,hz0,hz1,hz2⟩:=info_parts WB;go_enter func21,ntmps21;go_wp2
 go_loop [4] (fun i=>∃ k:Nat,k<=rs.length/\i=.int .i64 k/\(rs.take k).any Zq=false) (fun i=>rs.length - (intOf i).toNat)
 case atStart=>exact ⟨0,by omega,rfl,rfl⟩
 case round =>
  obtain ⟨k,hk,rfl,hany⟩:=hrel;have QT:=hide hany;clear hany
  by_cases hlt:k<rs.length
  · obtain ⟨r,hr⟩:∃ r,rs[k]?=some r:=⟨_,List.getElem?_eq_getElem hlt⟩;obtain ⟨b,off,rfl,hB,c0,c1,c2⟩:=hsW.rg hr;have HRR:=hide hr;clear hr;go_wp2_with fail;refine (Xp _ _).mono ?_;rintro e w' ⟨rfl,rfl⟩
    by_cases hsz:ZN r.v=0
    · have hw:rs.any Zq=true:=XY _ _ _ _ HRR.out (by simp [Zq,hsz]);have hr:ZT 4 vs rs Z0=7:=by
       unfold ZT Y8;rw [hw]
       repeat first|rw [if_neg (by omega)]|rw [if_pos (by omega)]|rw [cond_true]|rw [cond_false]|rw [decide_eq_true (by omega),Bool.true_and]|rw [decide_eq_false (by omega),Bool.false_and]
      have HR:=hide hr;clear hr hw;go_wp2;go_ret2;exact ZB HR.out (by omega) (bA)
    · have hsz':(ZN r.v == 0)=false:=(by simpa using hsz);have Vu:=hide hsz;clear hsz;go_wp2
      go_round
      case rel=>exact ⟨k+1,by omega,by go_num,by rw [any_take_succ _ _ _ _ HRR.out,QT.out];simp only [Zq,Bool.false_or];exact hsz'⟩
      case measure=>simp [intOf];omega
  · have hk':k=rs.length:=(by omega);subst hk';have hw:=QT.out;rw [List.take_length] at hw;have HW:=hide hw;clear hw
    by_cases hv:vs=0
    · by_cases hp:Z0=0
      · subst hv hp;go_wp2_with (at_builtin;refine wpList_append_own _ rfl (.tmp 115) (.tmp 120) 36 rfl (w.heap.size+1) 5 i0 (.int .u8 0) 1 1 underlying36 hi hz0 ‹_› hz2 rfl (by decide) (.slice (some ⟨w.heap.size+1,0,none⟩) 1 1) 1 (ZY [4]) rfl ((Yt (Z6.new2 _ _ _ _) (Nat.le_refl _) rfl (by unfold maxLen;omega)).alloc _) ⟨w.heap.size+2,0,none⟩ 1 1 (ZY [(rs.length:Int)]) rfl rfl ?c1 ?c2 ?c3 ?c4 ?c5 ?_)
        any_goals first
         | exact YW _
         | (unfold maxLen;omega)
         | omega
         | (simp;done)
         | (intro j u hu;simpa [ZY] using hu)
         | (have h:=Z6.new2 (w.alloc (.cells #[.int .i64 4,.int .i64 0,.slice A rs.length c,.int .i64 0] 24)) (.cells #[.int .u8 4] 5) 5 #[.int .u8 (rs.length:Int)]
            exact ZI (xs:=ZY [(rs.length:Int)]) (by simp at h;exact h))
        intro v2 w2 Zj Yj _;have hb2:Below w.heap.size w w2:=(Z7 (Z7 (bA) _) _).grown Yj (by simp;omega) (fun k hk=>by simp [Value.ownBlock] at hk;omega);have B2:=(((Z6.new w 24 #[.int .i64 4,.int .i64 0,.slice A rs.length c,.int .i64 0]).alloc (.cells #[.int .u8 4] 5)).alloc (.cells #[.int .u8 (rs.length:Int)] 5)).grown Yj (by simp [Value.ownBlock]);have f20:=B2.q0 rfl;have f22:=B2.q2 rfl;have hsl:=hs.below hb2;have hw2:=hb2.size;have zjm:w.heap.size<w2.heap.size:=B2.lt;clear Yj hsW;go_wp2
        go_loopw [5,6,7] (fun v i _ wr=>∃ k:Nat,k<=rs.length/\i=.int .i64 k/\wr.ownsRow (w.heap.size+1) 5 1 v (2+k) (ZY ([4,(rs.length:Int)]++(rs.take k).map Zf))/\Below (w.heap.size+1) w2 wr/\(rs.take k).any X8=false)
         (fun _ i _ _=>rs.length - (intOf i).toNat)
        case atStart=>exact ⟨0,by omega,rfl,by simpa [ZY] using Zj,Below.refl _ _,rfl⟩
        case round =>
         obtain ⟨k,hk,rfl,ZQ,hbr,hfull⟩:=hrel;have JN:=hide hfull;clear hfull;have hrs:=hbr.size;have g22:=(hbr.cell (p:=⟨w.heap.size,2,none⟩) (by simp)).trans f22;have g20:=(hbr.cell (p:=⟨w.heap.size,0,none⟩) (by simp)).trans f20
         by_cases hlt3:k<rs.length
         · obtain ⟨r,hr⟩:∃ r,rs[k]?=some r:=⟨_,List.getElem?_eq_getElem hlt3⟩;have hr0:=List.any_eq_false.1 HW.out r (List.mem_of_getElem? hr);have hrb:0<=r.v/\r.v<=64:=by
            unfold Zq ZN at hr0
            by_cases h0:r.v=0
            · omega
            · by_cases h3:3<=r.v/\r.v<=64
              · omega
              · rw [if_neg h0,if_neg h3] at hr0;simp at hr0
           clear hr0;obtain ⟨hr1,hr2⟩:=hrb;obtain ⟨b,off,rfl,hB,c0,c1,c2⟩:=(hsl.below (hbr.mono (by omega))).rg hr;have hts:(rs.take (k+1)).map Zf=(rs.take k).map Zf++[Zf r]:=(by rw [List.take_add_one,hr];simp);have HRR:=hide hr;clear hr;have Oe:=hide hts;clear hts
           by_cases hfl:0<r.n
           · have hf:rs.any X8=true:=XY _ _ _ _ HRR.out (by simp [X8,hfl]);have hr:ZT 4 0 rs 0=2:=by
              unfold ZT Y8;rw [HW.out,hf,Bool.and_false]
              repeat first|rw [if_neg (by omega)]|rw [if_pos (by omega)]|rw [cond_true]|rw [cond_false]|rw [decide_eq_true (by omega),Bool.true_and]|rw [decide_eq_false (by omega),Bool.false_and]
             have HR:=hide hr;clear hr hf;have zjv:(0:Int)<(r.n:Int):=(by omega);go_wp2;go_ret2;exact ZB HR.out (by omega) (hb2.trans (hbr.mono (by omega)))
           · have hn0:r.n=0:=(by omega);have hnf:X8 r=false:=(by simp [X8,hn0]);have dL:=hide hnf;clear hnf hfl;rw [hn0] at c2;have HN0:=hide hn0;clear hn0;obtain ⟨y,hy⟩:=eE (Zf r);cases hd:r.d
             · have hyv:y=r.v:=(by rw [hy];unfold Zf;rw [hd];simp);rw [hd] at c0;have HY:=hide hy;clear hy hd;subst hyv;go_wp2_with (at_builtin;refine wpList_append_own _ rfl (.tmp 151) (.tmp 154) 36 rfl (w.heap.size+1) 5 i0 (.int .u8 0) 1 1 underlying36 hi hz0 ‹_› hz2 rfl (by decide) _ (2+k) (ZY ([4,(rs.length:Int)]++(rs.take k).map Zf)) rfl (ZQ.alloc _) ⟨wr.heap.size,0,none⟩ 1 1 (ZY [r.v]) rfl rfl ?d1 ?d2 ?d3 ?d4 ?d5 ?_)
               case d1=>exact ZI (Z6.new _ _ _)
               case d2=>exact YW _
               case d3=>unfold maxLen;omega
               case d4=>omega
               case d5=>simp;omega
               intro v3 w3 ZM ZE _;have hb3:Below (w.heap.size+1) w2 w3:=(hbr.alloc (by omega) _).grown ZE (by simp;omega) (fun k hk=>ZP ZQ hk);have Y9:w3.ownsRow (w.heap.size+1) 5 1 v3 (2+(k+1)) (ZY ([4,(rs.length:Int)]++(rs.take (k+1)).map Zf)):=by
                rw [Oe.out,<- HY.out];simp [ZY] at ZM ⊢;exact ZM
               have HO:=hide Y9;clear ZM Y9 ZE;go_wp2;go_roundw
               case rel=>exact ⟨k+1,by omega,by go_num,HO.out,hb3,by rw [any_take_succ _ _ _ _ HRR.out,JN.out,dL.out];rfl⟩
               case measure=>simp [intOf];omega
             · have hyv:y=r.v+128:=(by rw [hy];unfold Zf;rw [hd];simp);rw [hd] at c0;have HY:=hide hy;clear hy hd;have HYV:=hide hyv;clear hyv;go_wp2_with (at_builtin;refine wpList_append_own _ rfl (.tmp 151) (.tmp 154) 36 rfl (w.heap.size+1) 5 i0 (.int .u8 0) 1 1 underlying36 hi hz0 ‹_› hz2 rfl (by decide) _ (2+k) (ZY ([4,(rs.length:Int)]++(rs.take k).map Zf)) rfl (ZQ.alloc _) ⟨wr.heap.size,0,none⟩ 1 1 (ZY [r.v+128]) rfl rfl ?d1 ?d2 ?d3 ?d4 ?d5 ?_)
               case d1=>exact ZI (Z6.new _ _ _)
               case d2=>exact YW _
               case d3=>unfold maxLen;omega
               case d4=>omega
               case d5=>simp;omega
               intro v3 w3 ZM ZE _;have hb3:Below (w.heap.size+1) w2 w3:=(hbr.alloc (by omega) _).grown ZE (by simp;omega) (fun k hk=>ZP ZQ hk);have Y9:w3.ownsRow (w.heap.size+1) 5 1 v3 (2+(k+1)) (ZY ([4,(rs.length:Int)]++(rs.take (k+1)).map Zf)):=by
                rw [Oe.out,<- HY.out,HYV.out];simp [ZY] at ZM ⊢;exact ZM
               have HO:=hide Y9;clear ZM Y9 ZE;go_wp2;go_roundw
               case rel=>exact ⟨k+1,by omega,by go_num,HO.out,hb3,by rw [any_take_succ _ _ _ _ HRR.out,JN.out,dL.out];rfl⟩
               case measure=>simp [intOf];omega
         · have hk':k=rs.length:=(by omega);subst hk';rw [List.take_length] at ZQ;have hfull:=JN.out;rw [List.take_length] at hfull;have hf:ZK 4 0 rs 0=(Zo 4 0 rs 0,0):=by
            unfold ZK;rw [if_pos (Wv (by omega) (by omega) (by omega) (fun _=>⟨by omega,by omega,HW.out⟩) (by omega) (by omega) (by omega) hfull)]
           have HF:=hide hf;clear hf hfull;go_wp2;go_ret2;rw [HF.out];refine ⟨_,rfl,?_,hb2.trans (hbr.mono (by omega))⟩;have h:=VH ZQ (base':=w.heap.size) (by omega);have hlf:(Zo 4 0 rs 0).length=2+rs.length:=(by simp [Zo];omega);dsimp only;rw [hlf];simp [Zo,ZY] at h ⊢;exact h
      · have hr:ZT 4 vs rs Z0=2:=by
         unfold ZT Y8;rw [HW.out,Bool.and_false]
         repeat first|rw [if_neg (by omega)]|rw [if_pos (by omega)]|rw [cond_true]|rw [cond_false]|rw [decide_eq_true (by omega),Bool.true_and]|rw [decide_eq_false (by omega),Bool.false_and]
        have HR:=hide hr;clear hr;have hp':(Z0 != 0)=true:=(by rw [bne_iff_ne];exact hp);have HP:=hide hp;clear hp;subst hv;go_wp2;go_ret2;exact ZB HR.out (by omega) (bA)
    · have hr:ZT 4 vs rs Z0=2:=by
       unfold ZT Y8;rw [HW.out,Bool.and_false]
       repeat first|rw [if_neg (by omega)]|rw [if_pos (by omega)]|rw [cond_true]|rw [cond_false]|rw [decide_eq_true (by omega),Bool.true_and]|rw [decide_eq_false (by omega),Bool.false_and]
      have HR:=hide hr;clear hr;have hv':(vs != 0)=true:=(by rw [bne_iff_ne];exact hv);have HV:=hide hv;clear hv;go_wp2;go_ret2;exact ZB HR.out (by omega) (bA)
end
end
section
open Go.RowKit
section
variable (vs:Int)(rs:List Rg)(A:Option Addr)(c:Nat)(Z0:Int)(w:World)
theorem Gw(hl:rs.length<1):
 Calls prog 21 #[.agg #[.int .i64 5,.int .i64 vs,.slice A rs.length c,.int .i64 Z0]] w (Zr (ZK 5 vs rs Z0) w):=by
 have hr:ZT 5 vs rs Z0=6:=by
  unfold ZT Y8
  repeat first|rw [if_neg (by omega)]|rw [if_pos (by omega)]|rw [cond_true]|rw [cond_false]|rw [decide_eq_true (by omega),Bool.true_and]|rw [decide_eq_false (by omega),Bool.false_and]
 have HR:=hide hr;clear hr;go_enter func21,ntmps21;go_wp2;go_ret2;exact ZB HR.out (by omega) (bA)
theorem Gv(hl:64<rs.length):
 Calls prog 21 #[.agg #[.int .i64 5,.int .i64 vs,.slice A rs.length c,.int .i64 Z0]] w (Zr (ZK 5 vs rs Z0) w):=by
 have hr:ZT 5 vs rs Z0=6:=by
  unfold ZT Y8
  repeat first|rw [if_neg (by omega)]|rw [if_pos (by omega)]|rw [cond_true]|rw [cond_false]|rw [decide_eq_true (by omega),Bool.true_and]|rw [decide_eq_false (by omega),Bool.false_and]
 have HR:=hide hr;clear hr;go_enter func21,ntmps21;go_wp2;go_ret2;exact ZB HR.out (by omega) (bA)
variable (hs:Sl w w.heap.size A (rgCells rs))
include hs
theorem JC(hl1:1<=rs.length)(hl2:rs.length<=64):
 Calls prog 21 #[.agg #[.int .i64 5,.int .i64 vs,.slice A rs.length c,.int .i64 Z0]] w (Zr (ZK 5 vs rs Z0) w):=by
 have hsW:=hs.below (Z7 (Below.refl _ _) (.cells #[.int .i64 5,.int .i64 vs,.slice A rs.length c,.int .i64 Z0] 24));obtain ⟨i0,hi,hz0,hz1,hz2⟩:=info_parts WB;go_enter func21,ntmps21;go_wp2
 go_loop [4] (fun i=>∃ k:Nat,k<=rs.length/\i=.int .i64 k/\(rs.take k).any Zq=false) (fun i=>rs.length - (intOf i).toNat)
 case atStart=>exact ⟨0,by omega,rfl,rfl⟩
 case round =>
  obtain ⟨k,hk,rfl,hany⟩:=hrel;have QT:=hide hany;clear hany
  by_cases hlt:k<rs.length
  · obtain ⟨r,hr⟩:∃ r,rs[k]?=some r:=⟨_,List.getElem?_eq_getElem hlt⟩;obtain ⟨b,off,rfl,hB,c0,c1,c2⟩:=hsW.rg hr;have HRR:=hide hr;clear hr;go_wp2_with fail;refine (Xp _ _).mono ?_;rintro e w' ⟨rfl,rfl⟩
    by_cases hsz:ZN r.v=0
    · have hw:rs.any Zq=true:=XY _ _ _ _ HRR.out (by simp [Zq,hsz]);have hr:ZT 5 vs rs Z0=7:=by
       unfold ZT Y8;rw [hw]
       repeat first|rw [if_neg (by omega)]|rw [if_pos (by omega)]|rw [cond_true]|rw [cond_false]|rw [decide_eq_true (by omega),Bool.true_and]|rw [decide_eq_false (by omega),Bool.false_and]
      have HR:=hide hr;clear hr hw;go_wp2;go_ret2;exact ZB HR.out (by omega) (bA)
    · have hsz':(ZN r.v == 0)=false:=(by simpa using hsz);have Vu:=hide hsz;clear hsz;go_wp2
      go_round
      case rel=>exact ⟨k+1,by omega,by go_num,by rw [any_take_succ _ _ _ _ HRR.out,QT.out];simp only [Zq,Bool.false_or];exact hsz'⟩
      case measure=>simp [intOf];omega
  · have hk':k=rs.length:=(by omega);subst hk';have hw:=QT.out;rw [List.take_length] at hw;have HW:=hide hw;clear hw
    by_cases hp1:Z0<1
    · have hr:ZT 5 vs rs Z0=6:=by
       unfold ZT Y8;rw [HW.out,Bool.and_false]
       repeat first|rw [if_neg (by omega)]|rw [if_pos (by omega)]|rw [cond_true]|rw [cond_false]|rw [decide_eq_true (by omega),Bool.true_and]|rw [decide_eq_false (by omega),Bool.false_and]
      have HR:=hide hr;clear hr;go_wp2;go_ret2;exact ZB HR.out (by omega) (bA)
    by_cases hp2:4096<Z0
    · have hr:ZT 5 vs rs Z0=6:=by
       unfold ZT Y8;rw [HW.out,Bool.and_false]
       repeat first|rw [if_neg (by omega)]|rw [if_pos (by omega)]|rw [cond_true]|rw [cond_false]|rw [decide_eq_true (by omega),Bool.true_and]|rw [decide_eq_false (by omega),Bool.false_and]
      have HR:=hide hr;clear hr;go_wp2;go_ret2;exact ZB HR.out (by omega) (bA)
    have hq1:1<=Z0:=(by omega);have hq2:Z0<=4096:=(by omega);clear hp1 hp2
    by_cases hv:vs=0
    · subst hv;go_wp2_with (at_builtin;refine wpList_append_own _ rfl (.tmp 115) (.tmp 120) 36 rfl (w.heap.size+1) 5 i0 (.int .u8 0) 1 1 underlying36 hi hz0 ‹_› hz2 rfl (by decide) (.slice (some ⟨w.heap.size+1,0,none⟩) 1 1) 1 (ZY [5]) rfl ((Yt (Z6.new2 _ _ _ _) (Nat.le_refl _) rfl (by unfold maxLen;omega)).alloc _) ⟨w.heap.size+2,0,none⟩ 1 1 (ZY [(rs.length:Int)]) rfl rfl ?c1 ?c2 ?c3 ?c4 ?c5 ?_)
      any_goals first
       | exact YW _
       | (unfold maxLen;omega)
       | omega
       | (simp;done)
       | (intro j u hu;simpa [ZY] using hu)
       | (have h:=Z6.new2 (w.alloc (.cells #[.int .i64 5,.int .i64 0,.slice A rs.length c,.int .i64 Z0] 24)) (.cells #[.int .u8 5] 5) 5 #[.int .u8 (rs.length:Int)]
          exact ZI (xs:=ZY [(rs.length:Int)]) (by simp at h;exact h))
      intro v2 w2 Zj Yj _;have hb2:Below w.heap.size w w2:=(Z7 (Z7 (bA) _) _).grown Yj (by simp;omega) (fun k hk=>by simp [Value.ownBlock] at hk;omega);have B2:=(((Z6.new w 24 #[.int .i64 5,.int .i64 0,.slice A rs.length c,.int .i64 Z0]).alloc (.cells #[.int .u8 5] 5)).alloc (.cells #[.int .u8 (rs.length:Int)] 5)).grown Yj (by simp [Value.ownBlock]);have f20:=B2.q0 rfl;have f22:=B2.q2 rfl;have hsl:=hs.below hb2;have hw2:=hb2.size;have zjm:w.heap.size<w2.heap.size:=B2.lt;clear Yj hsW;go_wp2
      go_loopw [5,6,7] (fun v i _ wr=>∃ k:Nat,k<=rs.length/\i=.int .i64 k/\wr.ownsRow (w.heap.size+1) 5 1 v (2+k) (ZY ([5,(rs.length:Int)]++(rs.take k).map Zf))/\Below (w.heap.size+1) w2 wr/\(rs.take k).any X8=false)
       (fun _ i _ _=>rs.length - (intOf i).toNat)
      case atStart=>exact ⟨0,by omega,rfl,by simpa [ZY] using Zj,Below.refl _ _,rfl⟩
      case round =>
       obtain ⟨k,hk,rfl,ZQ,hbr,hfull⟩:=hrel;have JN:=hide hfull;clear hfull;have hrs:=hbr.size;have g22:=(hbr.cell (p:=⟨w.heap.size,2,none⟩) (by simp)).trans f22;have g20:=(hbr.cell (p:=⟨w.heap.size,0,none⟩) (by simp)).trans f20
       by_cases hlt3:k<rs.length
       · obtain ⟨r,hr⟩:∃ r,rs[k]?=some r:=⟨_,List.getElem?_eq_getElem hlt3⟩;have hr0:=List.any_eq_false.1 HW.out r (List.mem_of_getElem? hr);have hrb:0<=r.v/\r.v<=64:=by
          unfold Zq ZN at hr0
          by_cases h0:r.v=0
          · omega
          · by_cases h3:3<=r.v/\r.v<=64
            · omega
            · rw [if_neg h0,if_neg h3] at hr0;simp at hr0
         clear hr0;obtain ⟨hr1,hr2⟩:=hrb;obtain ⟨b,off,rfl,hB,c0,c1,c2⟩:=(hsl.below (hbr.mono (by omega))).rg hr;have hts:(rs.take (k+1)).map Zf=(rs.take k).map Zf++[Zf r]:=(by rw [List.take_add_one,hr];simp);have HRR:=hide hr;clear hr;have Oe:=hide hts;clear hts
         by_cases hfl:0<r.n
         · have hf:rs.any X8=true:=XY _ _ _ _ HRR.out (by simp [X8,hfl]);have hr:ZT 5 0 rs Z0=2:=by
            unfold ZT Y8;rw [HW.out,hf,Bool.and_false]
            repeat first|rw [if_neg (by omega)]|rw [if_pos (by omega)]|rw [cond_true]|rw [cond_false]|rw [decide_eq_true (by omega),Bool.true_and]|rw [decide_eq_false (by omega),Bool.false_and]
           have HR:=hide hr;clear hr hf;have zjv:(0:Int)<(r.n:Int):=(by omega);go_wp2;go_ret2;exact ZB HR.out (by omega) (hb2.trans (hbr.mono (by omega)))
         · have hn0:r.n=0:=(by omega);have hnf:X8 r=false:=(by simp [X8,hn0]);have dL:=hide hnf;clear hnf hfl;rw [hn0] at c2;have HN0:=hide hn0;clear hn0;obtain ⟨y,hy⟩:=eE (Zf r);cases hd:r.d
           · have hyv:y=r.v:=(by rw [hy];unfold Zf;rw [hd];simp);rw [hd] at c0;have HY:=hide hy;clear hy hd;subst hyv;go_wp2_with (at_builtin;refine wpList_append_own _ rfl (.tmp 151) (.tmp 154) 36 rfl (w.heap.size+1) 5 i0 (.int .u8 0) 1 1 underlying36 hi hz0 ‹_› hz2 rfl (by decide) _ (2+k) (ZY ([5,(rs.length:Int)]++(rs.take k).map Zf)) rfl (ZQ.alloc _) ⟨wr.heap.size,0,none⟩ 1 1 (ZY [r.v]) rfl rfl ?d1 ?d2 ?d3 ?d4 ?d5 ?_)
             case d1=>exact ZI (Z6.new _ _ _)
             case d2=>exact YW _
             case d3=>unfold maxLen;omega
             case d4=>omega
             case d5=>simp;omega
             intro v3 w3 ZM ZE _;have hb3:Below (w.heap.size+1) w2 w3:=(hbr.alloc (by omega) _).grown ZE (by simp;omega) (fun k hk=>ZP ZQ hk);have Y9:w3.ownsRow (w.heap.size+1) 5 1 v3 (2+(k+1)) (ZY ([5,(rs.length:Int)]++(rs.take (k+1)).map Zf)):=by
              rw [Oe.out,<- HY.out];simp [ZY] at ZM ⊢;exact ZM
             have HO:=hide Y9;clear ZM Y9 ZE;go_wp2;go_roundw
             case rel=>exact ⟨k+1,by omega,by go_num,HO.out,hb3,by rw [any_take_succ _ _ _ _ HRR.out,JN.out,dL.out];rfl⟩
             case measure=>simp [intOf];omega
           · have hyv:y=r.v+128:=(by rw [hy];unfold Zf;rw [hd];simp);rw [hd] at c0;have HY:=hide hy;clear hy hd;have HYV:=hide hyv;clear hyv;go_wp2_with (at_builtin;refine wpList_append_own _ rfl (.tmp 151) (.tmp 154) 36 rfl (w.heap.size+1) 5 i0 (.int .u8 0) 1 1 underlying36 hi hz0 ‹_› hz2 rfl (by decide) _ (2+k) (ZY ([5,(rs.length:Int)]++(rs.take k).map Zf)) rfl (ZQ.alloc _) ⟨wr.heap.size,0,none⟩ 1 1 (ZY [r.v+128]) rfl rfl ?d1 ?d2 ?d3 ?d4 ?d5 ?_)
             case d1=>exact ZI (Z6.new _ _ _)
             case d2=>exact YW _
             case d3=>unfold maxLen;omega
             case d4=>omega
             case d5=>simp;omega
             intro v3 w3 ZM ZE _;have hb3:Below (w.heap.size+1) w2 w3:=(hbr.alloc (by omega) _).grown ZE (by simp;omega) (fun k hk=>ZP ZQ hk);have Y9:w3.ownsRow (w.heap.size+1) 5 1 v3 (2+(k+1)) (ZY ([5,(rs.length:Int)]++(rs.take (k+1)).map Zf)):=by
              rw [Oe.out,<- HY.out,HYV.out];simp [ZY] at ZM ⊢;exact ZM
             have HO:=hide Y9;clear ZM Y9 ZE;go_wp2;go_roundw
             case rel=>exact ⟨k+1,by omega,by go_num,HO.out,hb3,by rw [any_take_succ _ _ _ _ HRR.out,JN.out,dL.out];rfl⟩
             case measure=>simp [intOf];omega
       · have hk':k=rs.length:=(by omega);subst hk';rw [List.take_length] at ZQ;have hfull:=JN.out;rw [List.take_length] at hfull;have hf:ZK 5 0 rs Z0=(Zo 5 0 rs Z0,0):=by
          unfold ZK;rw [if_pos (Wv (by omega) (by omega) (by omega) (fun _=>⟨by omega,by omega,HW.out⟩) (by omega) (by omega) (by omega) hfull)]
         have HF:=hide hf;clear hf hfull;have g23:=(hbr.cell (p:=⟨w.heap.size,3,none⟩) (by simp)).trans (B2.q3 rfl);go_wp2_with (at_builtin;refine wpList_append_own _ rfl (.tmp 159) (.tmp 168) 36 rfl (w.heap.size+1) 5 i0 (.int .u8 0) 1 1 underlying36 hi hz0 ‹_› hz2 rfl (by decide) _ (2+rs.length) (ZY ([5,(rs.length:Int)]++rs.map Zf)) rfl (ZQ.alloc _) ⟨wr.heap.size,0,none⟩ 2 2 (ZY [Z0 % 256,Z0 / 256]) rfl rfl ?g1 ?g2 ?g3 ?g4 ?g5 ?_)
         case g1=>exact ZI (Z6.new _ _ _)
         case g2=>exact YW _
         case g3=>unfold maxLen;omega
         case g4=>omega
         case g5=>simp;omega
         intro v3 w3 ZM ZE _;have hb3:Below w.heap.size w w3:=((hb2.trans (hbr.mono (by omega))).alloc (by omega) _).grown ZE (by simp;omega) (fun k hk=>by have:=ZP ZQ hk;omega);have HO:=hide ZM;clear ZM ZE;go_wp2;go_ret2;rw [HF.out];refine ⟨_,rfl,?_,hb3⟩;have h:=VH HO.out (base':=w.heap.size) (by omega);have hlf:(Zo 5 0 rs Z0).length=2+rs.length+2:=(by simp [Zo];omega);dsimp only;rw [hlf];simp [Zo,ZY] at h ⊢;exact h
    · have hr:ZT 5 vs rs Z0=2:=by
       unfold ZT Y8;rw [HW.out,Bool.and_false]
       repeat first|rw [if_neg (by omega)]|rw [if_pos (by omega)]|rw [cond_true]|rw [cond_false]|rw [decide_eq_true (by omega),Bool.true_and]|rw [decide_eq_false (by omega),Bool.false_and]
      have HR:=hide hr;clear hr;have hv':(vs != 0)=true:=(by rw [bne_iff_ne];exact hv);have HV:=hide hv;clear hv;go_wp2;go_ret2;exact ZB HR.out (by omega) (bA)
end
end
section
open Go.RowKit
theorem Rw(op vs Z0:Int)(rs:List Rg)(A:Option Addr)(c:Nat)(w:World)(hs:Sl w w.heap.size A (rgCells rs)):
 Calls prog 21 #[.agg #[.int .i64 op,.int .i64 vs,.slice A rs.length c,.int .i64 Z0]] w (Zr (ZK op vs rs Z0) w):=by
 by_cases h0:op<1\/5<op
 · exact Ew vs rs A c Z0 w op h0
 by_cases h1:op=1
 · subst h1
   by_cases hv:vs=0
   · rcases Nat.eq_zero_or_pos rs.length with hl|hl
     · have hl':=List.eq_nil_of_length_eq_zero hl
       by_cases hp:Z0=0
       · exact Gb vs rs A c Z0 w hv hl' hp
       · exact Gc vs rs A c Z0 w hv hl' hp
     · exact Gf vs rs A c Z0 w hv hl
   · exact Gg vs rs A c Z0 w hv
 by_cases h2:op=2
 · subst h2
   by_cases hv:vs=0
   · rcases Nat.eq_zero_or_pos rs.length with hl|hl
     · have hl':=List.eq_nil_of_length_eq_zero hl
       by_cases hp:Z0=0
       · exact Gh vs rs A c Z0 w hv hl' hp
       · exact Gi vs rs A c Z0 w hv hl' hp
     · exact Gj vs rs A c Z0 w hv hl
   · exact Gl vs rs A c Z0 w hv
 by_cases h3:op=3
 · subst h3
   by_cases hv:vs<3
   · exact Gn vs rs A c Z0 w hv
   by_cases hv2:64<vs
   · exact Gm vs rs A c Z0 w hv2
   rcases Nat.eq_zero_or_pos rs.length with hl|hl
   · have hl':=List.eq_nil_of_length_eq_zero hl
     by_cases hp:Z0=0
     · exact Gp vs rs A c Z0 w (by omega) (by omega) hl' hp
     · exact Gq vs rs A c Z0 w (by omega) (by omega) hl' hp
   · exact Gs vs rs A c Z0 w (by omega) (by omega) hl
 by_cases h4:op=4
 · subst h4
   by_cases hl:rs.length<1
   · exact Gu vs rs A c Z0 w hl
   by_cases hl2:64<rs.length
   · exact Gt vs rs A c Z0 w hl2
   · exact JB vs rs A c Z0 w hs (by omega) (by omega)
 · have h5:op=5:=(by omega);subst h5
   by_cases hl:rs.length<1
   · exact Gw vs rs A c Z0 w hl
   by_cases hl2:64<rs.length
   · exact Gv vs rs A c Z0 w hl2
   · exact JC vs rs A c Z0 w hs (by omega) (by omega)
end
end Go.Proofs.YtfljlmleiggmjaaGreatDoor