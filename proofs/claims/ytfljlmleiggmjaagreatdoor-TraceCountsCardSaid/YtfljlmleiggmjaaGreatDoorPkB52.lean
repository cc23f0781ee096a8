/- RefFormatAny -/
import Derived.Test.YtfljlmleiggmjaaGreatDoorPkB03
import Derived.Test.YtfljlmleiggmjaaGreatDoorPkB07
set_option maxRecDepth 1000000
set_option maxHeartbeats 8000000
namespace Go.Proofs.YtfljlmleiggmjaaGreatDoor
section
open Go.RowKit
theorem hformat_err {op vs pts:Int} {rs:List Rg} {e:Int} (h:hcheck op vs rs pts=e) (he:e≠0):hformat op vs rs pts=([],e):=by unfold hformat;rw [h,if_neg he]
theorem formatted_err {op vs pts:Int} {rs:List Rg} {e:Int} {w w':World} (h:hcheck op vs rs pts=e) (he:e≠0) (hb:Below w.heap.size w w') :
 Formatted (hformat op vs rs pts) w (.returned (.tuple #[.slice none 0 0,.int .i64 e])) w':=by
 rw [hformat_err h he]
 exact ⟨_,rfl,World.ownsRow_nil _ _ _ _,hb⟩
section
variable (vs:Int) (rs:List Rg) (A:Option Addr) (c:Nat) (pts:Int) (w:World)
theorem rformat_bad (op:Int) (hop:op<1∨5<op) :
 Calls Tryz.prog 21 #[.agg #[.int .i64 op,.int .i64 vs,.slice A rs.length c,.int .i64 pts]] w (Formatted (hformat op vs rs pts) w):=by
 have hr:hcheck op vs rs pts=5:=by unfold hcheck hcheckB;rw [if_pos hop]
 have HR:=hide hr;clear hr
 rcases hop with hop | hop
 all_goals
  go_enter Tryz.func21,Tryz.ntmps21
  go_wp2
  go_ret2
  exact formatted_err HR.out (by omega) (bA)
variable (hs:Sl w w.heap.size A (rgCells rs)) (hn:rs.length≤maxLen)
theorem rformat_1_vs (hv:vs≠0) :
 Calls Tryz.prog 21 #[.agg #[.int .i64 1,.int .i64 vs,.slice A rs.length c,.int .i64 pts]] w (Formatted (hformat 1 vs rs pts) w):=by
 have hr:hcheck 1 vs rs pts=2:=by
  unfold hcheck hcheckB
  repeat first | rw [if_neg (by omega)] | rw [if_pos (by omega)] | rw [cond_true] | rw [cond_false] | rw [decide_eq_true (by omega),Bool.true_and] | rw [decide_eq_false (by omega),Bool.false_and]
 have HR:=hide hr;clear hr
 have hv':(vs != 0)=true:=by rw [bne_iff_ne];exact hv
 have HV:=hide hv;clear hv
 go_enter Tryz.func21,Tryz.ntmps21
 go_wp2
 go_ret2
 exact formatted_err HR.out (by omega) (bA)
theorem rformat_1_rs (hv:vs=0) (hl:0<rs.length) :
 Calls Tryz.prog 21 #[.agg #[.int .i64 1,.int .i64 vs,.slice A rs.length c,.int .i64 pts]] w (Formatted (hformat 1 vs rs pts) w):=by
 have hr:hcheck 1 vs rs pts=2:=by
  unfold hcheck hcheckB
  repeat first | rw [if_neg (by omega)] | rw [if_pos (by omega)] | rw [cond_true] | rw [cond_false] | rw [decide_eq_true (by omega),Bool.true_and] | rw [decide_eq_false (by omega),Bool.false_and]
 have HR:=hide hr;clear hr
 have hv':(vs != 0)=false:=by rw [bne_eq_false_iff_eq];exact hv
 have HV:=hide hv;clear hv
 have hl':decide (0<rs.length)=true:=decide_eq_true hl
 go_enter Tryz.func21,Tryz.ntmps21
 go_wp2
 go_ret2
 exact formatted_err HR.out (by omega) (bA)
theorem rformat_1_pt (hv:vs=0) (hl:rs=[]) (hp:pts≠0) :
 Calls Tryz.prog 21 #[.agg #[.int .i64 1,.int .i64 vs,.slice A rs.length c,.int .i64 pts]] w (Formatted (hformat 1 vs rs pts) w):=by
 have hr:hcheck 1 vs rs pts=2:=by
  unfold hcheck hcheckB
  repeat first | rw [if_neg (by omega)] | rw [if_pos (by omega)] | rw [cond_true] | rw [cond_false] | rw [decide_eq_true (by omega),Bool.true_and] | rw [decide_eq_false (by omega),Bool.false_and]
 have HR:=hide hr;clear hr
 have hv':(vs != 0)=false:=by rw [bne_eq_false_iff_eq];exact hv
 have HV:=hide hv;clear hv
 subst hl
 have hp':(pts != 0)=true:=by rw [bne_iff_ne];exact hp
 have HP:=hide hp;clear hp
 go_enter Tryz.func21,Tryz.ntmps21
 go_wp2
 go_ret2
 exact formatted_err HR.out (by omega) (bA)
theorem rformat_2_vs (hv:vs≠0) :
 Calls Tryz.prog 21 #[.agg #[.int .i64 2,.int .i64 vs,.slice A rs.length c,.int .i64 pts]] w (Formatted (hformat 2 vs rs pts) w):=by
 have hr:hcheck 2 vs rs pts=2:=by
  unfold hcheck hcheckB
  repeat first | rw [if_neg (by omega)] | rw [if_pos (by omega)] | rw [cond_true] | rw [cond_false] | rw [decide_eq_true (by omega),Bool.true_and] | rw [decide_eq_false (by omega),Bool.false_and]
 have HR:=hide hr;clear hr
 have hv':(vs != 0)=true:=by rw [bne_iff_ne];exact hv
 have HV:=hide hv;clear hv
 go_enter Tryz.func21,Tryz.ntmps21
 go_wp2
 go_ret2
 exact formatted_err HR.out (by omega) (bA)
theorem rformat_2_rs (hv:vs=0) (hl:0<rs.length) :
 Calls Tryz.prog 21 #[.agg #[.int .i64 2,.int .i64 vs,.slice A rs.length c,.int .i64 pts]] w (Formatted (hformat 2 vs rs pts) w):=by
 have hr:hcheck 2 vs rs pts=2:=by
  unfold hcheck hcheckB
  repeat first | rw [if_neg (by omega)] | rw [if_pos (by omega)] | rw [cond_true] | rw [cond_false] | rw [decide_eq_true (by omega),Bool.true_and] | rw [decide_eq_false (by omega),Bool.false_and]
 have HR:=hide hr;clear hr
 have hv':(vs != 0)=false:=by rw [bne_eq_false_iff_eq];exact hv
 have HV:=hide hv;clear hv
 have hl':decide (0<rs.length)=true:=decide_eq_true hl
 go_enter Tryz.func21,Tryz.ntmps21
 go_wp2
 go_ret2
 exact formatted_err HR.out (by omega) (bA)
theorem rformat_2_pt (hv:vs=0) (hl:rs=[]) (hp:pts≠0) :
 Calls Tryz.prog 21 #[.agg #[.int .i64 2,.int .i64 vs,.slice A rs.length c,.int .i64 pts]] w (Formatted (hformat 2 vs rs pts) w):=by
 have hr:hcheck 2 vs rs pts=2:=by
  unfold hcheck hcheckB
  repeat first | rw [if_neg (by omega)] | rw [if_pos (by omega)] | rw [cond_true] | rw [cond_false] | rw [decide_eq_true (by omega),Bool.true_and] | rw [decide_eq_false (by omega),Bool.false_and]
 have HR:=hide hr;clear hr
 have hv':(vs != 0)=false:=by rw [bne_eq_false_iff_eq];exact hv
 have HV:=hide hv;clear hv
 subst hl
 have hp':(pts != 0)=true:=by rw [bne_iff_ne];exact hp
 have HP:=hide hp;clear hp
 go_enter Tryz.func21,Tryz.ntmps21
 go_wp2
 go_ret2
 exact formatted_err HR.out (by omega) (bA)
theorem rformat_1_ok (hv:vs=0) (hl:rs=[]) (hp:pts=0) :
 Calls Tryz.prog 21 #[.agg #[.int .i64 1,.int .i64 vs,.slice A rs.length c,.int .i64 pts]] w (Formatted (hformat 1 vs rs pts) w):=by
 have hf:hformat 1 vs rs pts=(fbytes 1 vs rs pts,0):=by
  unfold hformat
  rw [if_pos (hcheck_ok (by omega) (by omega) (fun _=>hv) (by omega) (fun _=>hl) (by omega) (fun _=>hp) (by rw [hl];rfl))]
 rw [hf]
 subst hv hl hp
 have HF:=hide hf;clear hf
 go_enter Tryz.func21,Tryz.ntmps21
 go_wp2
 refine wp_loop_rounds 1 ?_
 rw [rounds_succ]
 go_wp2
 go_ret2
 exact ⟨_,rfl,own_of_blk (xs:=byCells [_]) (Blk.new2 _ _ _ _) (by omega) rfl (by unfold maxLen;omega),bl_alloc (bA) _⟩
theorem rformat_2_ok (hv:vs=0) (hl:rs=[]) (hp:pts=0) :
 Calls Tryz.prog 21 #[.agg #[.int .i64 2,.int .i64 vs,.slice A rs.length c,.int .i64 pts]] w (Formatted (hformat 2 vs rs pts) w):=by
 have hf:hformat 2 vs rs pts=(fbytes 2 vs rs pts,0):=by
  unfold hformat
  rw [if_pos (hcheck_ok (by omega) (by omega) (fun _=>hv) (by omega) (fun _=>hl) (by omega) (fun _=>hp) (by rw [hl];rfl))]
 rw [hf]
 subst hv hl hp
 have HF:=hide hf;clear hf
 go_enter Tryz.func21,Tryz.ntmps21
 go_wp2
 refine wp_loop_rounds 1 ?_
 rw [rounds_succ]
 go_wp2
 go_ret2
 exact ⟨_,rfl,own_of_blk (xs:=byCells [_]) (Blk.new2 _ _ _ _) (by omega) rfl (by unfold maxLen;omega),bl_alloc (bA) _⟩
end
end
section
open Go.RowKit
section
variable (vs:Int) (rs:List Rg) (A:Option Addr) (c:Nat) (pts:Int) (w:World)
theorem rformat_3_lo (hv:vs<3) :
 Calls Tryz.prog 21 #[.agg #[.int .i64 3,.int .i64 vs,.slice A rs.length c,.int .i64 pts]] w (Formatted (hformat 3 vs rs pts) w):=by
 have hr:hcheck 3 vs rs pts=6:=by
  unfold hcheck hcheckB
  repeat first | rw [if_neg (by omega)] | rw [if_pos (by omega)] | rw [cond_true] | rw [cond_false] | rw [decide_eq_true (by omega),Bool.true_and] | rw [decide_eq_false (by omega),Bool.false_and]
 have HR:=hide hr;clear hr
 go_enter Tryz.func21,Tryz.ntmps21
 go_wp2
 go_ret2
 exact formatted_err HR.out (by omega) (bA)
theorem rformat_3_hi (hv:64<vs) :
 Calls Tryz.prog 21 #[.agg #[.int .i64 3,.int .i64 vs,.slice A rs.length c,.int .i64 pts]] w (Formatted (hformat 3 vs rs pts) w):=by
 have hr:hcheck 3 vs rs pts=6:=by
  unfold hcheck hcheckB
  repeat first | rw [if_neg (by omega)] | rw [if_pos (by omega)] | rw [cond_true] | rw [cond_false] | rw [decide_eq_true (by omega),Bool.true_and] | rw [decide_eq_false (by omega),Bool.false_and]
 have HR:=hide hr;clear hr
 go_enter Tryz.func21,Tryz.ntmps21
 go_wp2
 go_ret2
 exact formatted_err HR.out (by omega) (bA)
theorem rformat_3_rs (hv1:3≤vs) (hv2:vs≤64) (hl:0<rs.length) :
 Calls Tryz.prog 21 #[.agg #[.int .i64 3,.int .i64 vs,.slice A rs.length c,.int .i64 pts]] w (Formatted (hformat 3 vs rs pts) w):=by
 have hr:hcheck 3 vs rs pts=2:=by
  unfold hcheck hcheckB
  repeat first | rw [if_neg (by omega)] | rw [if_pos (by omega)] | rw [cond_true] | rw [cond_false] | rw [decide_eq_true (by omega),Bool.true_and] | rw [decide_eq_false (by omega),Bool.false_and]
 have HR:=hide hr;clear hr
 have hl':decide (0<rs.length)=true:=decide_eq_true hl
 go_enter Tryz.func21,Tryz.ntmps21
 go_wp2
 go_ret2
 exact formatted_err HR.out (by omega) (bA)
theorem rformat_3_pt (hv1:3≤vs) (hv2:vs≤64) (hl:rs=[]) (hp:pts≠0) :
 Calls Tryz.prog 21 #[.agg #[.int .i64 3,.int .i64 vs,.slice A rs.length c,.int .i64 pts]] w (Formatted (hformat 3 vs rs pts) w):=by
 have hr:hcheck 3 vs rs pts=2:=by
  unfold hcheck hcheckB
  repeat first | rw [if_neg (by omega)] | rw [if_pos (by omega)] | rw [cond_true] | rw [cond_false] | rw [decide_eq_true (by omega),Bool.true_and] | rw [decide_eq_false (by omega),Bool.false_and]
 have HR:=hide hr;clear hr
 subst hl
 have hp':(pts != 0)=true:=by rw [bne_iff_ne];exact hp
 have HP:=hide hp;clear hp
 go_enter Tryz.func21,Tryz.ntmps21
 go_wp2
 go_ret2
 exact formatted_err HR.out (by omega) (bA)
theorem rformat_3_ok (hv1:3≤vs) (hv2:vs≤64) (hl:rs=[]) (hp:pts=0) :
 Calls Tryz.prog 21 #[.agg #[.int .i64 3,.int .i64 vs,.slice A rs.length c,.int .i64 pts]] w (Formatted (hformat 3 vs rs pts) w):=by
 have hf:hformat 3 vs rs pts=(fbytes 3 vs rs pts,0):=by
  unfold hformat
  rw [if_pos (hcheck_ok (by omega) (by omega) (by omega) (by omega) (fun _=>hl) (by omega) (fun _=>hp) (by rw [hl];rfl))]
 rw [hf]
 subst hl hp
 have HF:=hide hf;clear hf
 obtain ⟨i0,hi,hz0,hz1,hz2⟩:=info_parts u8_info
 go_enter Tryz.func21,Tryz.ntmps21
 go_wp2_with (at_builtin;refine wpList_append_own _ rfl (.tmp 106) (.tmp 110) 36 rfl (w.heap.size+1) 5 i0 (.int .u8 0) 1 1 Tryz.underlying36 hi hz0 ‹_› hz2 rfl (by decide) (.slice (some ⟨w.heap.size+1,0,none⟩) 1 1) 1 (byCells [3]) rfl ((own_of_blk (Blk.new2 _ _ _ _) (Nat.le_refl _) rfl (by unfold maxLen;omega)).alloc _) ⟨w.heap.size+2,0,none⟩ 1 1 (byCells [vs]) rfl rfl ?c1 ?c2 ?c3 ?c4 ?c5 ?_)
 case c1 =>
  have h:=Blk.new2 (w.alloc (.cells #[.int .i64 3,.int .i64 vs,.slice A 0 c,.int .i64 0] 24)) (.cells #[.int .u8 3] 5) 5 #[.int .u8 vs]
  exact blk_cells (xs:=byCells [vs]) (by simp at h;exact h)
 case c2=>exact byCells_one _
 case c3=>unfold maxLen;omega
 case c4=>omega
 case c5=>simp
 intro v2 w2 hown2 hgrow2 _
 have hb2:Below w.heap.size w w2:=(bl_alloc (bl_alloc (bA) _) _).grown hgrow2 (by simp;omega) (fun k hk=>by simp [Value.ownBlock] at hk;omega)
 have B1:=(((Blk.new w 24 #[.int .i64 3,.int .i64 vs,.slice A 0 c,.int .i64 0]).alloc (.cells #[.int .u8 3] 5)).alloc (.cells #[.int .u8 vs] 5)).grown hgrow2 (by simp [Value.ownBlock])
 have f0:=B1.cell (i:=0) rfl
 have f2:=B1.cell (i:=2) rfl
 have f3:=B1.cell (i:=3) rfl
 have HO:=hide hown2
 clear hown2 hgrow2
 go_wp2
 refine wp_loop_rounds 1 ?_
 rw [rounds_succ]
 go_wp2
 go_ret2
 exact ⟨_,rfl,own_mono HO.out (by omega),hb2⟩
end
end
section
open Go.RowKit
section
variable (vs:Int) (rs:List Rg) (A:Option Addr) (c:Nat) (pts:Int) (w:World)
theorem rformat_4_lo (hl:rs.length<1) :
 Calls Tryz.prog 21 #[.agg #[.int .i64 4,.int .i64 vs,.slice A rs.length c,.int .i64 pts]] w (Formatted (hformat 4 vs rs pts) w):=by
 have hr:hcheck 4 vs rs pts=6:=by
  unfold hcheck hcheckB
  repeat first | rw [if_neg (by omega)] | rw [if_pos (by omega)] | rw [cond_true] | rw [cond_false] | rw [decide_eq_true (by omega),Bool.true_and] | rw [decide_eq_false (by omega),Bool.false_and]
 have HR:=hide hr;clear hr
 go_enter Tryz.func21,Tryz.ntmps21
 go_wp2
 go_ret2
 exact formatted_err HR.out (by omega) (bA)
theorem rformat_4_hi (hl:64<rs.length) :
 Calls Tryz.prog 21 #[.agg #[.int .i64 4,.int .i64 vs,.slice A rs.length c,.int .i64 pts]] w (Formatted (hformat 4 vs rs pts) w):=by
 have hr:hcheck 4 vs rs pts=6:=by
  unfold hcheck hcheckB
  repeat first | rw [if_neg (by omega)] | rw [if_pos (by omega)] | rw [cond_true] | rw [cond_false] | rw [decide_eq_true (by omega),Bool.true_and] | rw [decide_eq_false (by omega),Bool.false_and]
 have HR:=hide hr;clear hr
 go_enter Tryz.func21,Tryz.ntmps21
 go_wp2
 go_ret2
 exact formatted_err HR.out (by omega) (bA)
variable (hs:Sl w w.heap.size A (rgCells rs))
include hs
theorem rformat_4_len (hl1:1≤rs.length) (hl2:rs.length≤64) :
 Calls Tryz.prog 21 #[.agg #[.int .i64 4,.int .i64 vs,.slice A rs.length c,.int .i64 pts]] w (Formatted (hformat 4 vs rs pts) w):=by
 have hsW:=hs.below (bl_alloc (Below.refl _ _) (.cells #[.int .i64 4,.int .i64 vs,.slice A rs.length c,.int .i64 pts] 24))
 obtain ⟨i0,hi,hz0,hz1,hz2⟩:=info_parts u8_info
 go_enter Tryz.func21,Tryz.ntmps21
 go_wp2
 go_loop [4] (fun i=>∃ k:Nat,k≤rs.length∧i=.int .i64 k∧(rs.take k).any wrongRg=false) (fun i=>rs.length - (intOf i).toNat)
 case atStart=>exact ⟨0,by omega,rfl,rfl⟩
 case round =>
  obtain ⟨k,hk,rfl,hany⟩:=hrel
  have HANY:=hide hany;clear hany
  by_cases hlt:k<rs.length
  · obtain ⟨r,hr⟩:∃ r,rs[k]?=some r:=⟨_,List.getElem?_eq_getElem hlt⟩
    obtain ⟨b,off,rfl,hB,c0,c1,c2⟩:=hsW.rg hr
    have HRR:=hide hr;clear hr
    go_wp2_with fail
    refine (refSize_any _ _).mono ?_
    rintro e w' ⟨rfl,rfl⟩
    by_cases hsz:sizeOfReg r.v=0
    · have hw:rs.any wrongRg=true:=any_of_get _ _ _ _ HRR.out (by simp [wrongRg,hsz])
      have hr:hcheck 4 vs rs pts=7:=by
       unfold hcheck hcheckB
       rw [hw]
       repeat first | rw [if_neg (by omega)] | rw [if_pos (by omega)] | rw [cond_true] | rw [cond_false] | rw [decide_eq_true (by omega),Bool.true_and] | rw [decide_eq_false (by omega),Bool.false_and]
      have HR:=hide hr;clear hr hw
      go_wp2
      go_ret2
      exact formatted_err HR.out (by omega) (bA)
    · have hsz':(sizeOfReg r.v == 0)=false:=by simpa using hsz
      have HSZ:=hide hsz;clear hsz
      go_wp2
      go_round
      case rel=>exact ⟨k+1,by omega,by go_num,by rw [any_take_succ _ _ _ _ HRR.out,HANY.out];simp only [wrongRg,Bool.false_or];exact hsz'⟩
      case measure=>simp [intOf];omega
  · have hk':k=rs.length:=by omega
    subst hk'
    have hw:=HANY.out
    rw [List.take_length] at hw
    have HW:=hide hw;clear hw
    by_cases hv:vs=0
    · by_cases hp:pts=0
      · subst hv hp
        go_wp2_with (at_builtin;refine wpList_append_own _ rfl (.tmp 115) (.tmp 120) 36 rfl (w.heap.size+1) 5 i0 (.int .u8 0) 1 1 Tryz.underlying36 hi hz0 ‹_› hz2 rfl (by decide) (.slice (some ⟨w.heap.size+1,0,none⟩) 1 1) 1 (byCells [4]) rfl ((own_of_blk (Blk.new2 _ _ _ _) (Nat.le_refl _) rfl (by unfold maxLen;omega)).alloc _) ⟨w.heap.size+2,0,none⟩ 1 1 (byCells [(rs.length:Int)]) rfl rfl ?c1 ?c2 ?c3 ?c4 ?c5 ?_)
        any_goals first
         | exact byCells_one _
         | (unfold maxLen;omega)
         | omega
         | (simp;done)
         | (intro j u hu;simpa [byCells] using hu)
         | (have h:=Blk.new2 (w.alloc (.cells #[.int .i64 4,.int .i64 0,.slice A rs.length c,.int .i64 0] 24)) (.cells #[.int .u8 4] 5) 5 #[.int .u8 (rs.length:Int)]
            exact blk_cells (xs:=byCells [(rs.length:Int)]) (by simp at h;exact h))
        intro v2 w2 hown2 hgrow2 _
        have hb2:Below w.heap.size w w2:=(bl_alloc (bl_alloc (bA) _) _).grown hgrow2 (by simp;omega) (fun k hk=>by simp [Value.ownBlock] at hk;omega)
        have B2:=(((Blk.new w 24 #[.int .i64 4,.int .i64 0,.slice A rs.length c,.int .i64 0]).alloc (.cells #[.int .u8 4] 5)).alloc (.cells #[.int .u8 (rs.length:Int)] 5)).grown hgrow2 (by simp [Value.ownBlock])
        have f20:=B2.cell (i:=0) rfl
        have f22:=B2.cell (i:=2) rfl
        have hsl:=hs.below hb2
        have hw2:=hb2.size
        have hB2l:w.heap.size<w2.heap.size:=B2.lt
        clear hgrow2 hsW
        go_wp2
        go_loopw [5,6,7] (fun v i _ wr=>∃ k:Nat,k≤rs.length∧i=.int .i64 k∧wr.ownsRow (w.heap.size+1) 5 1 v (2+k) (byCells ([4,(rs.length:Int)]++(rs.take k).map fbyte))∧Below (w.heap.size+1) w2 wr∧(rs.take k).any fullRg=false)
         (fun _ i _ _=>rs.length - (intOf i).toNat)
        case atStart=>exact ⟨0,by omega,rfl,by simpa [byCells] using hown2,Below.refl _ _,rfl⟩
        case round =>
         obtain ⟨k,hk,rfl,hown,hbr,hfull⟩:=hrel
         have HFULL:=hide hfull;clear hfull
         have hrs:=hbr.size
         have g22:=(hbr.cell (p:=⟨w.heap.size,2,none⟩) (by simp)).trans f22
         have g20:=(hbr.cell (p:=⟨w.heap.size,0,none⟩) (by simp)).trans f20
         by_cases hlt3:k<rs.length
         · obtain ⟨r,hr⟩:∃ r,rs[k]?=some r:=⟨_,List.getElem?_eq_getElem hlt3⟩
           have hr0:=List.any_eq_false.1 HW.out r (List.mem_of_getElem? hr)
           have hrb:0≤r.v∧r.v≤64:=by
            unfold wrongRg sizeOfReg at hr0
            by_cases h0:r.v=0
            · omega
            · by_cases h3:3≤r.v∧r.v≤64
              · omega
              · rw [if_neg h0,if_neg h3] at hr0;simp at hr0
           clear hr0
           obtain ⟨hr1,hr2⟩:=hrb
           obtain ⟨b,off,rfl,hB,c0,c1,c2⟩:=(hsl.below (hbr.mono (by omega))).rg hr
           have hts:(rs.take (k+1)).map fbyte=(rs.take k).map fbyte++[fbyte r]:=by rw [List.take_add_one,hr];simp
           have HRR:=hide hr;clear hr
           have HTS:=hide hts;clear hts
           by_cases hfl:0<r.n
           · have hf:rs.any fullRg=true:=any_of_get _ _ _ _ HRR.out (by simp [fullRg,hfl])
             have hr:hcheck 4 0 rs 0=2:=by
              unfold hcheck hcheckB
              rw [HW.out,hf,Bool.and_false]
              repeat first | rw [if_neg (by omega)] | rw [if_pos (by omega)] | rw [cond_true] | rw [cond_false] | rw [decide_eq_true (by omega),Bool.true_and] | rw [decide_eq_false (by omega),Bool.false_and]
             have HR:=hide hr;clear hr hf
             have hfl':(0:Int)<(r.n:Int):=by omega
             go_wp2
             go_ret2
             exact formatted_err HR.out (by omega) (hb2.trans (hbr.mono (by omega)))
           · have hn0:r.n=0:=by omega
             have hnf:fullRg r=false:=by simp [fullRg,hn0]
             have HNF:=hide hnf;clear hnf hfl
             rw [hn0] at c2
             have HN0:=hide hn0;clear hn0
             obtain ⟨y,hy⟩:∃ y,y=fbyte r:=⟨_,rfl⟩
             cases hd:r.d
             · have hyv:y=r.v:=by rw [hy];unfold fbyte;rw [hd];simp
               rw [hd] at c0
               have HY:=hide hy;clear hy hd
               subst hyv
               go_wp2_with (at_builtin;refine wpList_append_own _ rfl (.tmp 151) (.tmp 154) 36 rfl (w.heap.size+1) 5 i0 (.int .u8 0) 1 1 Tryz.underlying36 hi hz0 ‹_› hz2 rfl (by decide) _ (2+k) (byCells ([4,(rs.length:Int)]++(rs.take k).map fbyte)) rfl (hown.alloc _) ⟨wr.heap.size,0,none⟩ 1 1 (byCells [r.v]) rfl rfl ?d1 ?d2 ?d3 ?d4 ?d5 ?_)
               case d1=>exact blk_cells (Blk.new _ _ _)
               case d2=>exact byCells_one _
               case d3=>unfold maxLen;omega
               case d4=>omega
               case d5=>simp;omega
               intro v3 w3 hown3 hgrow3 _
               have hb3:Below (w.heap.size+1) w2 w3:=(hbr.alloc (by omega) _).grown hgrow3 (by simp;omega) (fun k hk=>own_base hown hk)
               have hown4:w3.ownsRow (w.heap.size+1) 5 1 v3 (2+(k+1)) (byCells ([4,(rs.length:Int)]++(rs.take (k+1)).map fbyte)):=by
                rw [HTS.out,← HY.out];simp [byCells] at hown3 ⊢;exact hown3
               have HO:=hide hown4
               clear hown3 hown4 hgrow3
               go_wp2
               go_roundw
               case rel=>exact ⟨k+1,by omega,by go_num,HO.out,hb3,by rw [any_take_succ _ _ _ _ HRR.out,HFULL.out,HNF.out];rfl⟩
               case measure=>simp [intOf];omega
             · have hyv:y=r.v+128:=by rw [hy];unfold fbyte;rw [hd];simp
               rw [hd] at c0
               have HY:=hide hy;clear hy hd
               have HYV:=hide hyv;clear hyv
               go_wp2_with (at_builtin;refine wpList_append_own _ rfl (.tmp 151) (.tmp 154) 36 rfl (w.heap.size+1) 5 i0 (.int .u8 0) 1 1 Tryz.underlying36 hi hz0 ‹_› hz2 rfl (by decide) _ (2+k) (byCells ([4,(rs.length:Int)]++(rs.take k).map fbyte)) rfl (hown.alloc _) ⟨wr.heap.size,0,none⟩ 1 1 (byCells [r.v+128]) rfl rfl ?d1 ?d2 ?d3 ?d4 ?d5 ?_)
               case d1=>exact blk_cells (Blk.new _ _ _)
               case d2=>exact byCells_one _
               case d3=>unfold maxLen;omega
               case d4=>omega
               case d5=>simp;omega
               intro v3 w3 hown3 hgrow3 _
               have hb3:Below (w.heap.size+1) w2 w3:=(hbr.alloc (by omega) _).grown hgrow3 (by simp;omega) (fun k hk=>own_base hown hk)
               have hown4:w3.ownsRow (w.heap.size+1) 5 1 v3 (2+(k+1)) (byCells ([4,(rs.length:Int)]++(rs.take (k+1)).map fbyte)):=by
                rw [HTS.out,← HY.out,HYV.out];simp [byCells] at hown3 ⊢;exact hown3
               have HO:=hide hown4
               clear hown3 hown4 hgrow3
               go_wp2
               go_roundw
               case rel=>exact ⟨k+1,by omega,by go_num,HO.out,hb3,by rw [any_take_succ _ _ _ _ HRR.out,HFULL.out,HNF.out];rfl⟩
               case measure=>simp [intOf];omega
         · have hk':k=rs.length:=by omega
           subst hk'
           rw [List.take_length] at hown
           have hfull:=HFULL.out
           rw [List.take_length] at hfull
           have hf:hformat 4 0 rs 0=(fbytes 4 0 rs 0,0):=by
            unfold hformat
            rw [if_pos (hcheck_ok (by omega) (by omega) (by omega) (fun _=>⟨by omega,by omega,HW.out⟩) (by omega) (by omega) (by omega) hfull)]
           have HF:=hide hf;clear hf hfull
           go_wp2
           go_ret2
           rw [HF.out]
           refine ⟨_,rfl,?_,hb2.trans (hbr.mono (by omega))⟩
           have h:=own_mono hown (base':=w.heap.size) (by omega)
           have hlf:(fbytes 4 0 rs 0).length=2+rs.length:=by simp [fbytes];omega
           dsimp only
           rw [hlf]
           simp [fbytes,byCells] at h ⊢
           exact h
      · have hr:hcheck 4 vs rs pts=2:=by
         unfold hcheck hcheckB
         rw [HW.out,Bool.and_false]
         repeat first | rw [if_neg (by omega)] | rw [if_pos (by omega)] | rw [cond_true] | rw [cond_false] | rw [decide_eq_true (by omega),Bool.true_and] | rw [decide_eq_false (by omega),Bool.false_and]
        have HR:=hide hr;clear hr
        have hp':(pts != 0)=true:=by rw [bne_iff_ne];exact hp
        have HP:=hide hp;clear hp
        subst hv
        go_wp2
        go_ret2
        exact formatted_err HR.out (by omega) (bA)
    · have hr:hcheck 4 vs rs pts=2:=by
       unfold hcheck hcheckB
       rw [HW.out,Bool.and_false]
       repeat first | rw [if_neg (by omega)] | rw [if_pos (by omega)] | rw [cond_true] | rw [cond_false] | rw [decide_eq_true (by omega),Bool.true_and] | rw [decide_eq_false (by omega),Bool.false_and]
      have HR:=hide hr;clear hr
      have hv':(vs != 0)=true:=by rw [bne_iff_ne];exact hv
      have HV:=hide hv;clear hv
      go_wp2
      go_ret2
      exact formatted_err HR.out (by omega) (bA)
end
end
section
open Go.RowKit
section
variable (vs:Int) (rs:List Rg) (A:Option Addr) (c:Nat) (pts:Int) (w:World)
theorem rformat_5_lo (hl:rs.length<1) :
 Calls Tryz.prog 21 #[.agg #[.int .i64 5,.int .i64 vs,.slice A rs.length c,.int .i64 pts]] w (Formatted (hformat 5 vs rs pts) w):=by
 have hr:hcheck 5 vs rs pts=6:=by
  unfold hcheck hcheckB
  repeat first | rw [if_neg (by omega)] | rw [if_pos (by omega)] | rw [cond_true] | rw [cond_false] | rw [decide_eq_true (by omega),Bool.true_and] | rw [decide_eq_false (by omega),Bool.false_and]
 have HR:=hide hr;clear hr
 go_enter Tryz.func21,Tryz.ntmps21
 go_wp2
 go_ret2
 exact formatted_err HR.out (by omega) (bA)
theorem rformat_5_hi (hl:64<rs.length) :
 Calls Tryz.prog 21 #[.agg #[.int .i64 5,.int .i64 vs,.slice A rs.length c,.int .i64 pts]] w (Formatted (hformat 5 vs rs pts) w):=by
 have hr:hcheck 5 vs rs pts=6:=by
  unfold hcheck hcheckB
  repeat first | rw [if_neg (by omega)] | rw [if_pos (by omega)] | rw [cond_true] | rw [cond_false] | rw [decide_eq_true (by omega),Bool.true_and] | rw [decide_eq_false (by omega),Bool.false_and]
 have HR:=hide hr;clear hr
 go_enter Tryz.func21,Tryz.ntmps21
 go_wp2
 go_ret2
 exact formatted_err HR.out (by omega) (bA)
variable (hs:Sl w w.heap.size A (rgCells rs))
include hs
theorem rformat_5_len (hl1:1≤rs.length) (hl2:rs.length≤64) :
 Calls Tryz.prog 21 #[.agg #[.int .i64 5,.int .i64 vs,.slice A rs.length c,.int .i64 pts]] w (Formatted (hformat 5 vs rs pts) w):=by
 have hsW:=hs.below (bl_alloc (Below.refl _ _) (.cells #[.int .i64 5,.int .i64 vs,.slice A rs.length c,.int .i64 pts] 24))
 obtain ⟨i0,hi,hz0,hz1,hz2⟩:=info_parts u8_info
 go_enter Tryz.func21,Tryz.ntmps21
 go_wp2
 go_loop [4] (fun i=>∃ k:Nat,k≤rs.length∧i=.int .i64 k∧(rs.take k).any wrongRg=false) (fun i=>rs.length - (intOf i).toNat)
 case atStart=>exact ⟨0,by omega,rfl,rfl⟩
 case round =>
  obtain ⟨k,hk,rfl,hany⟩:=hrel
  have HANY:=hide hany;clear hany
  by_cases hlt:k<rs.length
  · obtain ⟨r,hr⟩:∃ r,rs[k]?=some r:=⟨_,List.getElem?_eq_getElem hlt⟩
    obtain ⟨b,off,rfl,hB,c0,c1,c2⟩:=hsW.rg hr
    have HRR:=hide hr;clear hr
    go_wp2_with fail
    refine (refSize_any _ _).mono ?_
    rintro e w' ⟨rfl,rfl⟩
    by_cases hsz:sizeOfReg r.v=0
    · have hw:rs.any wrongRg=true:=any_of_get _ _ _ _ HRR.out (by simp [wrongRg,hsz])
      have hr:hcheck 5 vs rs pts=7:=by
       unfold hcheck hcheckB
       rw [hw]
       repeat first | rw [if_neg (by omega)] | rw [if_pos (by omega)] | rw [cond_true] | rw [cond_false] | rw [decide_eq_true (by omega),Bool.true_and] | rw [decide_eq_false (by omega),Bool.false_and]
      have HR:=hide hr;clear hr hw
      go_wp2
      go_ret2
      exact formatted_err HR.out (by omega) (bA)
    · have hsz':(sizeOfReg r.v == 0)=false:=by simpa using hsz
      have HSZ:=hide hsz;clear hsz
      go_wp2
      go_round
      case rel=>exact ⟨k+1,by omega,by go_num,by rw [any_take_succ _ _ _ _ HRR.out,HANY.out];simp only [wrongRg,Bool.false_or];exact hsz'⟩
      case measure=>simp [intOf];omega
  · have hk':k=rs.length:=by omega
    subst hk'
    have hw:=HANY.out
    rw [List.take_length] at hw
    have HW:=hide hw;clear hw
    by_cases hp1:pts<1
    · have hr:hcheck 5 vs rs pts=6:=by
       unfold hcheck hcheckB
       rw [HW.out,Bool.and_false]
       repeat first | rw [if_neg (by omega)] | rw [if_pos (by omega)] | rw [cond_true] | rw [cond_false] | rw [decide_eq_true (by omega),Bool.true_and] | rw [decide_eq_false (by omega),Bool.false_and]
      have HR:=hide hr;clear hr
      go_wp2
      go_ret2
      exact formatted_err HR.out (by omega) (bA)
    by_cases hp2:4096<pts
    · have hr:hcheck 5 vs rs pts=6:=by
       unfold hcheck hcheckB
       rw [HW.out,Bool.and_false]
       repeat first | rw [if_neg (by omega)] | rw [if_pos (by omega)] | rw [cond_true] | rw [cond_false] | rw [decide_eq_true (by omega),Bool.true_and] | rw [decide_eq_false (by omega),Bool.false_and]
      have HR:=hide hr;clear hr
      go_wp2
      go_ret2
      exact formatted_err HR.out (by omega) (bA)
    have hq1:1≤pts:=by omega
    have hq2:pts≤4096:=by omega
    clear hp1 hp2
    by_cases hv:vs=0
    · subst hv
      go_wp2_with (at_builtin;refine wpList_append_own _ rfl (.tmp 115) (.tmp 120) 36 rfl (w.heap.size+1) 5 i0 (.int .u8 0) 1 1 Tryz.underlying36 hi hz0 ‹_› hz2 rfl (by decide) (.slice (some ⟨w.heap.size+1,0,none⟩) 1 1) 1 (byCells [5]) rfl ((own_of_blk (Blk.new2 _ _ _ _) (Nat.le_refl _) rfl (by unfold maxLen;omega)).alloc _) ⟨w.heap.size+2,0,none⟩ 1 1 (byCells [(rs.length:Int)]) rfl rfl ?c1 ?c2 ?c3 ?c4 ?c5 ?_)
      any_goals first
       | exact byCells_one _
       | (unfold maxLen;omega)
       | omega
       | (simp;done)
       | (intro j u hu;simpa [byCells] using hu)
       | (have h:=Blk.new2 (w.alloc (.cells #[.int .i64 5,.int .i64 0,.slice A rs.length c,.int .i64 pts] 24)) (.cells #[.int .u8 5] 5) 5 #[.int .u8 (rs.length:Int)]
          exact blk_cells (xs:=byCells [(rs.length:Int)]) (by simp at h;exact h))
      intro v2 w2 hown2 hgrow2 _
      have hb2:Below w.heap.size w w2:=(bl_alloc (bl_alloc (bA) _) _).grown hgrow2 (by simp;omega) (fun k hk=>by simp [Value.ownBlock] at hk;omega)
      have B2:=(((Blk.new w 24 #[.int .i64 5,.int .i64 0,.slice A rs.length c,.int .i64 pts]).alloc (.cells #[.int .u8 5] 5)).alloc (.cells #[.int .u8 (rs.length:Int)] 5)).grown hgrow2 (by simp [Value.ownBlock])
      have f20:=B2.cell (i:=0) rfl
      have f22:=B2.cell (i:=2) rfl
      have hsl:=hs.below hb2
      have hw2:=hb2.size
      have hB2l:w.heap.size<w2.heap.size:=B2.lt
      clear hgrow2 hsW
      go_wp2
      go_loopw [5,6,7] (fun v i _ wr=>∃ k:Nat,k≤rs.length∧i=.int .i64 k∧wr.ownsRow (w.heap.size+1) 5 1 v (2+k) (byCells ([5,(rs.length:Int)]++(rs.take k).map fbyte))∧Below (w.heap.size+1) w2 wr∧(rs.take k).any fullRg=false)
       (fun _ i _ _=>rs.length - (intOf i).toNat)
      case atStart=>exact ⟨0,by omega,rfl,by simpa [byCells] using hown2,Below.refl _ _,rfl⟩
      case round =>
       obtain ⟨k,hk,rfl,hown,hbr,hfull⟩:=hrel
       have HFULL:=hide hfull;clear hfull
       have hrs:=hbr.size
       have g22:=(hbr.cell (p:=⟨w.heap.size,2,none⟩) (by simp)).trans f22
       have g20:=(hbr.cell (p:=⟨w.heap.size,0,none⟩) (by simp)).trans f20
       by_cases hlt3:k<rs.length
       · obtain ⟨r,hr⟩:∃ r,rs[k]?=some r:=⟨_,List.getElem?_eq_getElem hlt3⟩
         have hr0:=List.any_eq_false.1 HW.out r (List.mem_of_getElem? hr)
         have hrb:0≤r.v∧r.v≤64:=by
          unfold wrongRg sizeOfReg at hr0
          by_cases h0:r.v=0
          · omega
          · by_cases h3:3≤r.v∧r.v≤64
            · omega
            · rw [if_neg h0,if_neg h3] at hr0;simp at hr0
         clear hr0
         obtain ⟨hr1,hr2⟩:=hrb
         obtain ⟨b,off,rfl,hB,c0,c1,c2⟩:=(hsl.below (hbr.mono (by omega))).rg hr
         have hts:(rs.take (k+1)).map fbyte=(rs.take k).map fbyte++[fbyte r]:=by rw [List.take_add_one,hr];simp
         have HRR:=hide hr;clear hr
         have HTS:=hide hts;clear hts
         by_cases hfl:0<r.n
         · have hf:rs.any fullRg=true:=any_of_get _ _ _ _ HRR.out (by simp [fullRg,hfl])
           have hr:hcheck 5 0 rs pts=2:=by
            unfold hcheck hcheckB
            rw [HW.out,hf,Bool.and_false]
            repeat first | rw [if_neg (by omega)] | rw [if_pos (by omega)] | rw [cond_true] | rw [cond_false] | rw [decide_eq_true (by omega),Bool.true_and] | rw [decide_eq_false (by omega),Bool.false_and]
           have HR:=hide hr;clear hr hf
           have hfl':(0:Int)<(r.n:Int):=by omega
           go_wp2
           go_ret2
           exact formatted_err HR.out (by omega) (hb2.trans (hbr.mono (by omega)))
         · have hn0:r.n=0:=by omega
           have hnf:fullRg r=false:=by simp [fullRg,hn0]
           have HNF:=hide hnf;clear hnf hfl
           rw [hn0] at c2
           have HN0:=hide hn0;clear hn0
           obtain ⟨y,hy⟩:∃ y,y=fbyte r:=⟨_,rfl⟩
           cases hd:r.d
           · have hyv:y=r.v:=by rw [hy];unfold fbyte;rw [hd];simp
             rw [hd] at c0
             have HY:=hide hy;clear hy hd
             subst hyv
             go_wp2_with (at_builtin;refine wpList_append_own _ rfl (.tmp 151) (.tmp 154) 36 rfl (w.heap.size+1) 5 i0 (.int .u8 0) 1 1 Tryz.underlying36 hi hz0 ‹_› hz2 rfl (by decide) _ (2+k) (byCells ([5,(rs.length:Int)]++(rs.take k).map fbyte)) rfl (hown.alloc _) ⟨wr.heap.size,0,none⟩ 1 1 (byCells [r.v]) rfl rfl ?d1 ?d2 ?d3 ?d4 ?d5 ?_)
             case d1=>exact blk_cells (Blk.new _ _ _)
             case d2=>exact byCells_one _
             case d3=>unfold maxLen;omega
             case d4=>omega
             case d5=>simp;omega
             intro v3 w3 hown3 hgrow3 _
             have hb3:Below (w.heap.size+1) w2 w3:=(hbr.alloc (by omega) _).grown hgrow3 (by simp;omega) (fun k hk=>own_base hown hk)
             have hown4:w3.ownsRow (w.heap.size+1) 5 1 v3 (2+(k+1)) (byCells ([5,(rs.length:Int)]++(rs.take (k+1)).map fbyte)):=by
              rw [HTS.out,← HY.out];simp [byCells] at hown3 ⊢;exact hown3
             have HO:=hide hown4
             clear hown3 hown4 hgrow3
             go_wp2
             go_roundw
             case rel=>exact ⟨k+1,by omega,by go_num,HO.out,hb3,by rw [any_take_succ _ _ _ _ HRR.out,HFULL.out,HNF.out];rfl⟩
             case measure=>simp [intOf];omega
           · have hyv:y=r.v+128:=by rw [hy];unfold fbyte;rw [hd];simp
             rw [hd] at c0
             have HY:=hide hy;clear hy hd
             have HYV:=hide hyv;clear hyv
             go_wp2_with (at_builtin;refine wpList_append_own _ rfl (.tmp 151) (.tmp 154) 36 rfl (w.heap.size+1) 5 i0 (.int .u8 0) 1 1 Tryz.underlying36 hi hz0 ‹_› hz2 rfl (by decide) _ (2+k) (byCells ([5,(rs.length:Int)]++(rs.take k).map fbyte)) rfl (hown.alloc _) ⟨wr.heap.size,0,none⟩ 1 1 (byCells [r.v+128]) rfl rfl ?d1 ?d2 ?d3 ?d4 ?d5 ?_)
             case d1=>exact blk_cells (Blk.new _ _ _)
             case d2=>exact byCells_one _
             case d3=>unfold maxLen;omega
             case d4=>omega
             case d5=>simp;omega
             intro v3 w3 hown3 hgrow3 _
             have hb3:Below (w.heap.size+1) w2 w3:=(hbr.alloc (by omega) _).grown hgrow3 (by simp;omega) (fun k hk=>own_base hown hk)
             have hown4:w3.ownsRow (w.heap.size+1) 5 1 v3 (2+(k+1)) (byCells ([5,(rs.length:Int)]++(rs.take (k+1)).map fbyte)):=by
              rw [HTS.out,← HY.out,HYV.out];simp [byCells] at hown3 ⊢;exact hown3
             have HO:=hide hown4
             clear hown3 hown4 hgrow3
             go_wp2
             go_roundw
             case rel=>exact ⟨k+1,by omega,by go_num,HO.out,hb3,by rw [any_take_succ _ _ _ _ HRR.out,HFULL.out,HNF.out];rfl⟩
             case measure=>simp [intOf];omega
       · have hk':k=rs.length:=by omega
         subst hk'
         rw [List.take_length] at hown
         have hfull:=HFULL.out
         rw [List.take_length] at hfull
         have hf:hformat 5 0 rs pts=(fbytes 5 0 rs pts,0):=by
          unfold hformat
          rw [if_pos (hcheck_ok (by omega) (by omega) (by omega) (fun _=>⟨by omega,by omega,HW.out⟩) (by omega) (by omega) (by omega) hfull)]
         have HF:=hide hf;clear hf hfull
         have g23:=(hbr.cell (p:=⟨w.heap.size,3,none⟩) (by simp)).trans (B2.cell (i:=3) rfl)
         go_wp2_with (at_builtin;refine wpList_append_own _ rfl (.tmp 159) (.tmp 168) 36 rfl (w.heap.size+1) 5 i0 (.int .u8 0) 1 1 Tryz.underlying36 hi hz0 ‹_› hz2 rfl (by decide) _ (2+rs.length) (byCells ([5,(rs.length:Int)]++rs.map fbyte)) rfl (hown.alloc _) ⟨wr.heap.size,0,none⟩ 2 2 (byCells [pts % 256,pts / 256]) rfl rfl ?g1 ?g2 ?g3 ?g4 ?g5 ?_)
         case g1=>exact blk_cells (Blk.new _ _ _)
         case g2=>exact byCells_one _
         case g3=>unfold maxLen;omega
         case g4=>omega
         case g5=>simp;omega
         intro v3 w3 hown3 hgrow3 _
         have hb3:Below w.heap.size w w3:=((hb2.trans (hbr.mono (by omega))).alloc (by omega) _).grown hgrow3 (by simp;omega) (fun k hk=>by have:=own_base hown hk;omega)
         have HO:=hide hown3
         clear hown3 hgrow3
         go_wp2
         go_ret2
         rw [HF.out]
         refine ⟨_,rfl,?_,hb3⟩
         have h:=own_mono HO.out (base':=w.heap.size) (by omega)
         have hlf:(fbytes 5 0 rs pts).length=2+rs.length+2:=by simp [fbytes];omega
         dsimp only
         rw [hlf]
         simp [fbytes,byCells] at h ⊢
         exact h
    · have hr:hcheck 5 vs rs pts=2:=by
       unfold hcheck hcheckB
       rw [HW.out,Bool.and_false]
       repeat first | rw [if_neg (by omega)] | rw [if_pos (by omega)] | rw [cond_true] | rw [cond_false] | rw [decide_eq_true (by omega),Bool.true_and] | rw [decide_eq_false (by omega),Bool.false_and]
      have HR:=hide hr;clear hr
      have hv':(vs != 0)=true:=by rw [bne_iff_ne];exact hv
      have HV:=hide hv;clear hv
      go_wp2
      go_ret2
      exact formatted_err HR.out (by omega) (bA)
end
end
section
open Go.RowKit
theorem rformat_any (op vs pts:Int) (rs:List Rg) (A:Option Addr) (c:Nat) (w:World) (hs:Sl w w.heap.size A (rgCells rs)) :
 Calls Tryz.prog 21 #[.agg #[.int .i64 op,.int .i64 vs,.slice A rs.length c,.int .i64 pts]] w (Formatted (hformat op vs rs pts) w):=by
 by_cases h0:op<1∨5<op
 · exact rformat_bad vs rs A c pts w op h0
 by_cases h1:op=1
 · subst h1
   by_cases hv:vs=0
   · rcases Nat.eq_zero_or_pos rs.length with hl | hl
     · have hl':=List.eq_nil_of_length_eq_zero hl
       by_cases hp:pts=0
       · exact rformat_1_ok vs rs A c pts w hv hl' hp
       · exact rformat_1_pt vs rs A c pts w hv hl' hp
     · exact rformat_1_rs vs rs A c pts w hv hl
   · exact rformat_1_vs vs rs A c pts w hv
 by_cases h2:op=2
 · subst h2
   by_cases hv:vs=0
   · rcases Nat.eq_zero_or_pos rs.length with hl | hl
     · have hl':=List.eq_nil_of_length_eq_zero hl
       by_cases hp:pts=0
       · exact rformat_2_ok vs rs A c pts w hv hl' hp
       · exact rformat_2_pt vs rs A c pts w hv hl' hp
     · exact rformat_2_rs vs rs A c pts w hv hl
   · exact rformat_2_vs vs rs A c pts w hv
 by_cases h3:op=3
 · subst h3
   by_cases hv:vs<3
   · exact rformat_3_lo vs rs A c pts w hv
   by_cases hv2:64<vs
   · exact rformat_3_hi vs rs A c pts w hv2
   rcases Nat.eq_zero_or_pos rs.length with hl | hl
   · have hl':=List.eq_nil_of_length_eq_zero hl
     by_cases hp:pts=0
     · exact rformat_3_ok vs rs A c pts w (by omega) (by omega) hl' hp
     · exact rformat_3_pt vs rs A c pts w (by omega) (by omega) hl' hp
   · exact rformat_3_rs vs rs A c pts w (by omega) (by omega) hl
 by_cases h4:op=4
 · subst h4
   by_cases hl:rs.length<1
   · exact rformat_4_lo vs rs A c pts w hl
   by_cases hl2:64<rs.length
   · exact rformat_4_hi vs rs A c pts w hl2
   · exact rformat_4_len vs rs A c pts w hs (by omega) (by omega)
 · have h5:op=5:=by omega
   subst h5
   by_cases hl:rs.length<1
   · exact rformat_5_lo vs rs A c pts w hl
   by_cases hl2:64<rs.length
   · exact rformat_5_hi vs rs A c pts w hl2
   · exact rformat_5_len vs rs A c pts w hs (by omega) (by omega)
end
end Go.Proofs.YtfljlmleiggmjaaGreatDoor
