/- RefAnswer RefRespond -/
import Derived.Deep.AppendLies
import Derived.Deep.RegionHeld3
import Derived.Test.YtpnoofphfomjoaaGreatDoorPkM12
import Derived.Test.YtpnoofphfomjoaaGreatDoorPkM16
set_option maxRecDepth 1000000
set_option maxHeartbeats 8000000
namespace Go.Proofs.YtpnoofphfomjoaaGreatDoor
section
open Go.RowKit
section
variable (vs pts val cnt:Int) (HA RA:Option Addr) (hn hc rc:Nat) (recs:List (Int × Int)) (w:World)
variable (hs:Sl w w.heap.size RA (recCs recs)) (hrn:recs.length≤maxLen) (hp0:0≤pts) (hp1:pts≤4096)
include hs hrn hp0 hp1
theorem ris_at (n:Nat) (hn5:n<6) (M:Int) (hM:(#[Value.int .i64 0,.int .i64 2,.int .i64 2,.int .i64 3,.int .i64 2,.int .i64 1]:Array Value)[n]?=some (.int .i64 M)) (hm:most (n:Int)=M) :
 Calls Tryz.prog 105 #[.agg #[.int .i64 (n:Int),.int .i64 vs,.slice HA hn hc,.int .i64 pts],.agg #[.int .i64 val,.int .i64 cnt,.slice RA recs.length rc]] w fun e w'=>e=.returned (.bool (isAns n pts val cnt recs))∧Below w.heap.size w w':=by
 unfold maxLen at hrn
 have HS:=hide hs;clear hs
 obtain ⟨w0,hw0⟩:∃ w0,w0=((w.alloc (.cells #[.int .i64 (n:Int),.int .i64 vs,.slice HA hn hc,.int .i64 pts] 24)).alloc (.cells #[.int .i64 val,.int .i64 cnt,.slice RA recs.length rc] 38)).alloc (.cells #[.int .i64 0,.int .i64 2,.int .i64 2,.int .i64 3,.int .i64 2,.int .i64 1] 205):=⟨_,rfl⟩
 have hb0:Below w.heap.size w w0:=by rw [hw0];exact bl_alloc (bl_alloc (bA) _) _
 have BA:Blk w0 w.heap.size 24 #[.int .i64 (n:Int),.int .i64 vs,.slice HA hn hc,.int .i64 pts]:=by rw [hw0];exact ((Blk.new _ _ _).alloc _).alloc _
 have BR:Blk w0 (w.heap.size+1) 38 #[.int .i64 val,.int .i64 cnt,.slice RA recs.length rc]:=by rw [hw0];exact (Blk.new2 _ _ _ _).alloc _
 have BM:Blk w0 (w.heap.size+1+1) 205 #[.int .i64 0,.int .i64 2,.int .i64 2,.int .i64 3,.int .i64 2,.int .i64 1]:=by
  rw [hw0]
  have h:=Blk.new ((w.alloc (.cells #[.int .i64 (n:Int),.int .i64 vs,.slice HA hn hc,.int .i64 pts] 24)).alloc (.cells #[.int .i64 val,.int .i64 cnt,.slice RA recs.length rc] 38)) 205 #[.int .i64 0,.int .i64 2,.int .i64 2,.int .i64 3,.int .i64 2,.int .i64 1]
  simpa using h
 have HW0:=hide hw0;clear hw0
 have HI:Hid (isAns n pts val cnt recs=if val<0 then false else if M<val then false else if (recs.length:Int)≠pts then false else if cnt<0 then false else if aLim val pts<cnt then false else okFrom cnt 0 recs):=by
  apply hide;unfold isAns;rw [hm]
 clear hm
 have a0:=BA.cell (i:=0) rfl
 have a3:=BA.cell (i:=3) rfl
 have b0:=BR.cell (i:=0) rfl
 have b1:=BR.cell (i:=1) rfl
 have b2:=BR.cell (i:=2) rfl
 have m0:=BM.cell hM
 have n0:(0:Int)≤(n:Int):=by omega
 have n6:(n:Int)<6:=by omega
 clear hM
 by_cases c1:val<0
 · have d1:decide (val<0)=true:=by simpa using c1
   go_enter Tryz.func105,Tryz.ntmps105
   go_wp2
   rw [← HW0.out]
   go_quiet (fail)
   go_wp2
   go_ret
   exact ⟨ret_bool (by rw [HI.out,if_pos (by omega)]),below_drewN hb0 _⟩
 have d1:decide (val<0)=false:=by simpa using c1
 by_cases c2:M<val
 · have d2:decide (M<val)=true:=by simpa using c2
   go_enter Tryz.func105,Tryz.ntmps105
   go_wp2
   rw [← HW0.out]
   go_quiet (fail)
   go_wp2
   go_ret
   exact ⟨ret_bool (by rw [HI.out,if_neg (by omega),if_pos (by omega)]),below_drewN hb0 _⟩
 have d2:decide (M<val)=false:=by simpa using c2
 by_cases c3:(recs.length:Int)≠pts
 · have d3:((recs.length:Int) != pts)=true:=by simpa using c3
   go_enter Tryz.func105,Tryz.ntmps105
   go_wp2
   rw [← HW0.out]
   go_quiet (fail)
   go_wp2
   go_ret
   exact ⟨ret_bool (by rw [HI.out,if_neg (by omega),if_neg (by omega),if_pos (by omega)]),below_drewN hb0 _⟩
 obtain rfl:pts=(recs.length:Int):=by omega
 by_cases c4:cnt<0
 · have d4:decide (cnt<0)=true:=by simpa using c4
   go_enter Tryz.func105,Tryz.ntmps105
   go_wp2
   rw [← HW0.out]
   go_quiet (fail)
   go_wp2
   go_ret
   exact ⟨ret_bool (by rw [HI.out,if_neg (by omega),if_neg (by omega),if_neg (by omega),if_pos (by omega)]),below_drewN hb0 _⟩
 have d4:decide (cnt<0)=false:=by simpa using c4
 have hl:aLim val (recs.length:Int)=if val=0 then 0 else (recs.length:Int):=rfl
 obtain ⟨L,hL⟩:∃ L,aLim val (recs.length:Int)=L:=⟨_,rfl⟩
 rw [hL] at hl
 have HLL:=hide hL;clear hL
 have hv3:val=0∧L=0∨val≠0∧L=recs.length:=by
  by_cases h0:val=0
  · rw [if_pos h0] at hl;omega
  · rw [if_neg h0] at hl;omega
 clear hl
 by_cases c5:(recs.length:Int)<cnt
 · have d5:decide ((recs.length:Int)<cnt)=true:=by simpa using c5
   have c6:L<cnt:=by omega
   go_enter Tryz.func105,Tryz.ntmps105
   go_wp2
   rw [← HW0.out]
   go_quiet (fail)
   go_wp2
   go_ret
   exact ⟨ret_bool (by rw [HI.out,if_neg (by omega),if_neg (by omega),if_neg (by omega),if_neg (by omega),HLL.out,if_pos (by omega)]),below_drewN hb0 _⟩
 have d5:decide ((recs.length:Int)<cnt)=false:=by simpa using c5
 by_cases c7:val=0∧0<cnt
 · obtain ⟨rfl,c8⟩:=c7
   have d6:decide (0<cnt)=true:=by simpa using c8
   have c9:L<cnt:=by omega
   go_enter Tryz.func105,Tryz.ntmps105
   go_wp2
   rw [← HW0.out]
   go_quiet (fail)
   go_wp2
   go_ret
   exact ⟨ret_bool (by rw [HI.out,if_neg (by omega),if_neg (by omega),if_neg (by omega),if_neg (by omega),HLL.out,if_pos (by omega)]),below_drewN hb0 _⟩
 have HI2:Hid (isAns n recs.length val cnt recs=okFrom cnt 0 recs):=by
  apply hide;rw [HI.out,if_neg (by omega),if_neg (by omega),if_neg (by omega),if_neg (by omega),HLL.out,if_neg (by omega)]
 have hpost:∀ m,Below w0.heap.size w0 (w0.drewN m):=fun m=>below_drewN (Below.refl _ _) m
 have HPO:=hide hpost
 clear HI HLL c3 hpost
 have hgo:(val == 0)=false∨val=0∧decide (0<cnt)=false:=by
  by_cases h0:val=0
  · right;refine ⟨h0,?_⟩;simp;omega
  · left;simpa using h0
 clear hv3 c7
 rcases hgo with d6 | ⟨rfl,d6⟩
 all_goals
  go_enter Tryz.func105,Tryz.ntmps105
  go_wp2
  rw [← HW0.out]
  go_quiet (fail)
  go_wp2
  go_loopw [6] (fun i wr=>∃ k:Nat,k≤recs.length∧i=.int .i64 k∧Below w0.heap.size w0 wr∧okFrom cnt k (recs.drop k)=okFrom cnt 0 recs)
   (fun i _=>recs.length - (intOf i).toNat)
  case atStart=>exact ⟨0,by omega,rfl,HPO.out _,by simp⟩
  case round =>
   obtain ⟨k,hk,rfl,hbr,hok⟩:=hrel
   have HOK:=hide hok;clear hok
   have r1:=(BR.step hbr).cell (i:=1) rfl
   have r2:=(BR.step hbr).cell (i:=2) rfl
   have hBl:=(BR.step hbr).lt
   by_cases hlt:k<recs.length
   · obtain ⟨r,hr⟩:∃ r,recs[k]?=some r:=⟨_,List.getElem?_eq_getElem hlt⟩
     obtain ⟨b,off,rfl,hb,q0,q1⟩:=(HS.out.below (bl_step hb0 hbr)).rec_ hr
     have hbl:=cell_lt q0
     have HD:=hide (okFrom_drop cnt recs k r hr)
     clear hr b0 b1 b2 a0 a3 m0
     by_cases hlive:(k:Int)<cnt
     · have dl:decide ((k:Int)<cnt)=true:=by simpa using hlive
       by_cases h1:r.1=1
       · have h1':(r.1 != 1)=false:=by simpa using h1
         have HO:Hid (recOk cnt k r=true):=by apply hide;unfold recOk;rw [if_pos hlive,h1];rfl
         have H1:=hide h1;clear h1
         first
          | (exfalso;simp at d6;omega)
          | (go_wp2
             go_roundw
             case rel=>exact ⟨k+1,by omega,by go_num,bl_alloc hbr _,by rw [← HOK.out,HD.out,HO.out,Bool.true_and]⟩
             case measure=>simp [intOf];omega)
       · have h1':(r.1 != 1)=true:=by simpa using h1
         have HO:Hid (recOk cnt k r=false):=by apply hide;unfold recOk;rw [if_pos hlive];simpa using h1
         have H1:=hide h1;clear h1
         first
          | (exfalso;simp at d6;omega)
          | (go_wp2
             go_ret
             exact ⟨ret_bool (by rw [HI2.out,← HOK.out,HD.out,HO.out,Bool.false_and]),bl_step hb0 (bl_alloc hbr _)⟩)
     · have dl:decide ((k:Int)<cnt)=false:=by simpa using hlive
       by_cases h1:r.1=0
       · by_cases h2:r.2=0
         · have HO:Hid (recOk cnt k r=true):=by apply hide;unfold recOk;rw [if_neg hlive,h1,h2];rfl
           go_wp2
           go_roundw
           case rel=>exact ⟨k+1,by omega,by go_num,bl_alloc hbr _,by rw [← HOK.out,HD.out,HO.out,Bool.true_and]⟩
           case measure=>simp [intOf];omega
         · have HO:Hid (recOk cnt k r=false):=by apply hide;unfold recOk;rw [if_neg hlive];simp [h2]
           go_wp2
           go_ret
           exact ⟨ret_bool (by rw [HI2.out,← HOK.out,HD.out,HO.out,Bool.false_and]),bl_step hb0 (bl_alloc hbr _)⟩
       · have HO:Hid (recOk cnt k r=false):=by apply hide;unfold recOk;rw [if_neg hlive];simp [h1]
         go_wp2
         go_ret
         exact ⟨ret_bool (by rw [HI2.out,← HOK.out,HD.out,HO.out,Bool.false_and]),bl_step hb0 (bl_alloc hbr _)⟩
   · have hk':k=recs.length:=by omega
     subst hk'
     go_wp2
     go_ret
     exact ⟨ret_bool (by rw [HI2.out,← HOK.out,List.drop_length];rfl),bl_step hb0 hbr⟩
end
end
section
open Go.RowKit
theorem mostN {op:Int} (h1:1≤op) (h5:op≤5):∃ (m:Nat) (M:Int),op=(m:Int)∧m<6∧(#[Value.int .i64 0,.int .i64 2,.int .i64 2,.int .i64 3,.int .i64 2,.int .i64 1]:Array Value)[m]?=some (.int .i64 M)∧most (m:Int)=M:=by
 obtain ⟨m,rfl⟩:=Int.eq_ofNat_of_zero_le (show 0≤op by omega)
 have hm:m=1∨m=2∨m=3∨m=4∨m=5:=by omega
 rcases hm with rfl | rfl | rfl | rfl | rfl <;> exact ⟨_,_,rfl,by omega,rfl,rfl⟩
theorem keepR {R:Nat→Prop} {w0 wk w':World} {b c o1 o2:Nat} {u v1 v2:Value} (hb:R b) (hc:R c) (hk:KeepP R wk w')
 (h:KeepP R w0 wk∧wk.cell? ⟨b,2,none⟩=some u∧wk.cell? ⟨c,o1,none⟩=some v1∧wk.cell? ⟨c,o2,none⟩=some v2) :
 KeepP R w0 w'∧w'.cell? ⟨b,2,none⟩=some u∧w'.cell? ⟨c,o1,none⟩=some v1∧w'.cell? ⟨c,o2,none⟩=some v2 :=
 ⟨h.1.trans hk,hk.on hb h.2.1,hk.on hc h.2.2.1,hk.on hc h.2.2.2⟩
section
variable (op vs pts:Int) (hrs:List Rg) (HA:Option Addr) (hc:Nat) (val cnt:Int) (recs:List (Int × Int)) (RA:Option Addr) (rc:Nat) (w:World)
variable (hh:Sl w w.heap.size HA (rgCells hrs)) (hs:Sl w w.heap.size RA (recCs recs)) (hrn:recs.length≤maxLen) (hru:∀ r∈recs,U64 r.1∧U64 r.2)
include hh hs hrn hru
theorem rrespond_any:Calls Tryz.prog 66 #[.agg #[.int .i64 op,.int .i64 vs,.slice HA hrs.length hc,.int .i64 pts],.agg #[.int .i64 val,.int .i64 cnt,.slice RA recs.length rc]] w (Formatted (hrespond op vs hrs pts val cnt recs) w):=by
 have HH:=hide hh;have HS:=hide hs;have HRN:=hide hrn;have HRU:=hide hru
 clear hh hs hrn hru
 obtain ⟨w0,hw0⟩:∃ w0,w0=(w.alloc (.cells #[.int .i64 op,.int .i64 vs,.slice HA hrs.length hc,.int .i64 pts] 24)).alloc (.cells #[.int .i64 val,.int .i64 cnt,.slice RA recs.length rc] 38):=⟨_,rfl⟩
 have hb0:Below w.heap.size w w0:=by rw [hw0];exact bl_alloc (bA) _
 have B0:Blk w0 w.heap.size 24 #[.int .i64 op,.int .i64 vs,.slice HA hrs.length hc,.int .i64 pts]:=by rw [hw0];exact (Blk.new _ _ _).alloc _
 have A0:Blk w0 (w.heap.size+1) 38 #[.int .i64 val,.int .i64 cnt,.slice RA recs.length rc]:=by rw [hw0];exact Blk.new2 _ _ _ _
 have b0:=B0.cell (i:=0) rfl
 have b1:=B0.cell (i:=1) rfl
 have b2:=B0.cell (i:=2) rfl
 have b3:=B0.cell (i:=3) rfl
 have hF:=rformat_any op vs pts hrs HA hc w0 ((HH.out.below hb0).more hb0.size)
 by_cases he:hcheck op vs hrs pts=0
 · have hf2:hformat op vs hrs pts=(fbytes op vs hrs pts,0):=by unfold hformat;rw [if_pos he]
   rw [hf2] at hF
   have HF:=hide hF;clear hF hf2
   have HR:Hid (hrespond op vs hrs pts val cnt recs=if isAns op pts val cnt recs=false then ([],10) else (ansBytes op val cnt recs,0)):=by
    apply hide;unfold hrespond;rw [if_neg (by simpa using he)]
   obtain ⟨ho1,ho2,x1,x2,x3,x4,hp5,hpn,x5⟩:=hcheck_zero he
   have hpp:0≤pts∧pts≤4096:=by
    by_cases h5:op=5
    · have:=hp5 h5;omega
    · have:=hpn h5;omega
   obtain ⟨hp0,hp1⟩:=hpp
   clear x1 x2 x3 x4 x5 hp5 hpn he
   go_enter Tryz.func66,Tryz.ntmps66
   go_wp2_with fail
   rw [← hw0]
   have HW0:=hide hw0;clear hw0
   refine HF.out.mono ?_
   rintro e w1 ⟨v,rfl,hv1,hb1⟩
   have HB1:=bl_step hb0 hb1
   have B1:=B0.step hb1
   have A1:=A0.step hb1
   clear b0 b1 b2 b3 hv1
   have b0:=B1.cell (i:=0) rfl
   have b1:=B1.cell (i:=1) rfl
   have b2:=B1.cell (i:=2) rfl
   have b3:=B1.cell (i:=3) rfl
   have a0:=A1.cell (i:=0) rfl
   have a1:=A1.cell (i:=1) rfl
   have a2:=A1.cell (i:=2) rfl
   obtain ⟨m,M,hm,hm6,hM1,hM2⟩:=mostN ho1 ho2
   have IA:=ris_at vs pts val cnt HA RA hrs.length hc rc recs w1 ((HS.out.below HB1).more HB1.size) HRN.out hp0 hp1 m hm6 M hM1 hM2
   rw [← hm] at IA
   have HIA:=hide IA
   clear IA hM1 hM2 hm hm6
   go_wp2_with fail
   refine HIA.out.mono ?_
   rintro e w2 ⟨rfl,hb2⟩
   have HB2:=bl_step HB1 hb2
   have B2:=B1.step hb2
   have A2:=A1.step hb2
   obtain ⟨ia,hia⟩:∃ ia,isAns op pts val cnt recs=ia:=⟨_,rfl⟩
   rw [hia]
   have HI:=hide hia;clear hia b0 b1 b2 b3 a0 a1 a2
   cases ia
   · go_wp2
     go_ret2
     rw [HR.out,HI.out,if_pos rfl]
     exact ⟨_,rfl,World.ownsRow_nil _ _ _ _,HB2⟩
   · obtain ⟨hv0,hv3,hrl,hc0,hc1,_⟩:=isAns_true HI.out hp0
     have b0:=B2.cell (i:=0) rfl
     have a0:=A2.cell (i:=0) rfl
     have a1:=A2.cell (i:=1) rfl
     have a2:=A2.cell (i:=2) rfl
     obtain ⟨w3,hw3⟩:∃ w3,w3=w2.alloc (.cells #[.int .u8 0,.int .u8 val] 5):=⟨_,rfl⟩
     have hb3:Below w2.heap.size w2 w3:=by rw [hw3];exact bA
     have O3:w3.ownsRow w2.heap.size 5 1 (.slice (some ⟨w2.heap.size,0,none⟩) 2 2) [0,val].length (byCells [0,val]):=own_of_blk (xs:=byCells [0,val]) (by rw [hw3];exact Blk.new _ _ _) (Nat.le_refl _) rfl (by simp [maxLen])
     have hz3:w3.heap.size=w2.heap.size+1:=by rw [hw3];simp
     have B3:=B2.step hb3
     have A3:=A2.step hb3
     have HB3:=bl_step HB2 hb3
     have hLT:∀ k,k<w.heap.size→LtP w2.heap.size k:=fun k hk=>Nat.lt_of_lt_of_le hk HB2.size
     have hPA:LtP w2.heap.size (w.heap.size+1):=A2.lt
     have hPB:LtP w2.heap.size w.heap.size:=B2.lt
     have hP3:∀ k,LtP w2.heap.size k→k<w3.heap.size:=fun k hk=>by unfold LtP at hk;omega
     have HLT:=hide hLT;have HP3:=hide hP3;have HZ3:=hide hz3
     clear hLT hP3 hz3
     have hAl:=A2.lt
     have hBl:=B2.lt
     have RW3:RW w3 (LtP w2.heap.size) (.slice (some ⟨w2.heap.size,0,none⟩) 2 2) [0,val]:=rw_new O3
     by_cases h5:op=5
     · subst h5
       have HAB:Hid (ansBytes 5 val cnt recs=[0,val]++[cnt % 256,cnt / 256]++recs.flatMap rec9):=by apply hide;unfold ansBytes;rw [if_pos rfl]
       obtain ⟨i0,hi,hi0,hi1,hi2⟩:=info_parts u8_info
       have HRW3:=hide RW3
       have hown3:=RW3.1
       subst hw3
       have HA3:=hide A3;have HHB3:=hide HB3
       clear RW3 O3 A3 B3 HB3
       go_wp2_with (at_builtin;refine wpList_append_lies _ rfl (.tmp 29) (.tmp 38) 44 rfl 0 5 i0 (.int .u8 0) 1 1 Tryz.underlying44 hi hi0 hi1 hi2 rfl (by decide) _ _ _ rfl (own_step hown3 (bA)) ⟨w2.heap.size+1,0,none⟩ 2 2 [.int .u8 (cnt % 256),.int .u8 (cnt / 256)] rfl rfl ?g1 (by simp [Value.oneCell']) (by omega) (by simp [maxLen]) (by simp) (by omega) (w2.heap.size+2) (by simp) ?g2;rotate_left;intro g' cap w5 hown1 hgrow hat hlt')
       rotate_left
       · exact blk_cells (xs:=[.int .u8 (cnt % 256),.int .u8 (cnt / 256)]) (Blk.new2 _ _ _ _)
       · obtain ⟨p1,p2⟩:=rw_push (P:=LtP w2.heap.size) HP3.out HRW3.out (bA) hown1 (news:=[cnt % 256,cnt / 256]) (by simp) (by rw [byCells_append];rfl) hgrow (by have hat':some w2.heap.size=some g'∨g'=w2.heap.size+2:=hat;simpa [Value.ownBlock] using hat')
         have RW5:RW w5 (LtP w2.heap.size) (.slice (some ⟨g',0,none⟩) 4 cap) ([0,val]++[cnt % 256,cnt / 256]):=p1
         have A3:=HA3.out.kept p2 hPA
         have HB3:=HHB3.out.trans (p2.below HLT.out)
         have HP3:Hid (∀ k,LtP w2.heap.size k→k<w5.heap.size):=hide fun k hk=>Nat.lt_of_lt_of_le (HP3.out k hk) p2.size
         clear p1 HRW3 HA3 HHB3 b0 a0 a1 a2 hown3
         go_loopw [8,9] (fun u i wr=>∃ k:Nat,k≤recs.length∧i=.int .i64 k∧KeepP (LtP w2.heap.size) w5 wr∧RW wr (LtP w2.heap.size) u ([0,val]++[cnt % 256,cnt / 256]++(recs.take k).flatMap rec9))
          (fun _ i _=>recs.length - (intOf i).toNat)
         case atStart=>exact ⟨0,by omega,rfl,KeepP.refl _ _,by simpa using RW5⟩
         case round =>
          obtain ⟨k,hk,rfl,hkp,hrw⟩:=hrel
          have HBr:=HB3.trans (hkp.below HLT.out)
          have r2:=(A3.kept hkp hPA).cell (i:=2) rfl
          by_cases hlt:k<recs.length
          · obtain ⟨r,hr⟩:∃ r,recs[k]?=some r:=⟨_,List.getElem?_eq_getElem hlt⟩
            obtain ⟨b,off,rfl,hb,q0,q1⟩:=(HS.out.below HBr).rec_ hr
            have hLQ:=HLT.out b hb
            have hUU:=HRU.out r (List.mem_of_getElem? hr)
            have HU:=hide hUU.2
            have HT:=hide (flat_take_succ rec9 recs k r hr)
            have hln:([0,val]++[cnt % 256,cnt / 256]++(recs.take k).flatMap rec9).length≤200000:=by
             rw [List.length_append,flat_len rec9 9 rec9_length,List.length_take];simp;omega
            generalize hcs:[0,val]++[cnt % 256,cnt / 256]++(recs.take k).flatMap rec9=cs at hrw hln
            have HCS:=hide hcs
            have hPr:∀ j,LtP w2.heap.size j→j<wr.heap.size:=fun j hj=>Nat.lt_of_lt_of_le (HP3.out j hj) hkp.size
            have hwb:IntKind.u8.wrap r.1=r.1 % 256:=by rw [IntKind.wrap_u8]
            have HWB:=hide hwb
            have HRW:=hide hrw
            have hown:=hrw.1
            have C2:∀ wk v1,(KeepP (LtP w2.heap.size) wr wk∧wk.cell? ⟨w.heap.size+1,2,none⟩=some (.slice (some ⟨b,off,none⟩) recs.length rc)∧wk.cell? ⟨b,off+k*2,none⟩=some (.int .u64 r.1)∧wk.cell? ⟨b,off+k*2+1,none⟩=some (.int .u64 r.2))→RW wk (LtP w2.heap.size) v1 (cs++[r.1 % 256]) →
             Calls Tryz.prog 95 #[v1,.int .u64 r.2] wk (Worded (LtP w2.heap.size) wk (cs++[r.1 % 256]++word8 r.2)) :=
             fun wk v1 h1 h2=>rword_any (LtP w2.heap.size) _ wk (fun j hj=>Nat.lt_of_lt_of_le (hPr j hj) h1.1.size) (by rw [List.length_append];simp;omega) v1 h2 _ HU.out
            have HC2:=hide C2
            have HPR:=hide hPr
            obtain ⟨i0,hi,hi0,hi1,hi2⟩:=info_parts u8_info
            have hk0:(0:Int)≤(k:Int):=by omega
            have hkl:(k:Int)<(recs.length:Int):=by omega
            clear C2 hr hcs hUU hPr hwb hrw
            go_wp2
            go_region_held3 (fun w'=>KeepP (LtP w2.heap.size) wr w'∧w'.cell? ⟨w.heap.size+1,2,none⟩=some (.slice (some ⟨b,off,none⟩) recs.length rc)∧w'.cell? ⟨b,off+k*2,none⟩=some (.int .u64 r.1)∧w'.cell? ⟨b,off+k*2+1,none⟩=some (.int .u64 r.2))
             (first | exact keepR hPA hLQ (KeepP.drew _ _) ⟨KeepP.refl _ _,r2,q0,q1⟩ | exact keepR hPA hLQ (KeepP.of_below (bl_drew (bA)) HPR.out) ⟨KeepP.refl _ _,r2,q0,q1⟩ | exact ⟨KeepP.refl _ _,r2,q0,q1⟩ | exact keepR hPA hLQ (by assumption:KeepP (LtP w2.heap.size) wr _) ⟨KeepP.refl _ _,r2,q0,q1⟩ | exact keepR hPA hLQ (by assumption) (by assumption))
             (first
               | (refine step_append_lies _ (by rfl) (.tmp 47) (.tmp 55) 44 (by rfl) 0 5 i0 (.int .u8 0) 1 1 Tryz.underlying44 hi hi0 hi1 hi2 (by rfl) (by decide) u8 _ _ (by rfl) (own_step hown (bl_drew (bA))) ⟨wr.heap.size,0,none⟩ 1 1 [.int .u8 (IntKind.u8.wrap r.1)] (by rfl) (by rfl) (blk_cells (Blk.new _ _ _).drew) (by simp [Value.oneCell']) (by omega) (by unfold maxLen;omega) (by omega) (by omega) (wr.heap.size+1) (by simp) ?_;intro g' cap w7 hown1 hgrow hat hlt';obtain ⟨p1,p2⟩:=rw_push HPR.out HRW.out (bl_drew (bA)) hown1 (news:=[r.1 % 256]) (by simp) (by rw [HWB.out,byCells_append];rfl) hgrow (by simpa using hat))
               | (go_at_call 95;((with_reducible refine (HC2.out _ _ (by assumption) (by assumption)).mono ?_);rintro e w' ⟨v',rfl,k',r'⟩)))
            have r3:RW w' (LtP w2.heap.size) v' (cs++rec9 r):=by
             rw [List.append_assoc] at r'
             exact r'
            clear r2 q0 q1
            go_wp2
            go_roundw
            case rel=>exact ⟨k+1,by omega,by go_num,hkp.trans (p2.trans k'),by rw [HT.out,← List.append_assoc,HCS.out];exact r3⟩
            case measure=>simp [intOf];omega
          · obtain rfl:recs.length=k:=by omega
            rw [List.take_length] at hrw
            generalize hbF:[0,val]++[cnt % 256,cnt / 256]++recs.flatMap rec9=bF at hrw
            have HBF:=hide hbF;clear hbF
            have rown:=rw_own (base':=w.heap.size) hrw HB2.size
            obtain ⟨QA,qcap,rfl,_⟩:=own_slice rown
            go_wp2
            go_ret2
            rw [HR.out,HI.out,if_neg (by simp),HAB.out,HBF.out]
            exact ⟨.slice QA _ qcap,rfl,rown,HBr⟩
     · have h5':(op == 5)=false:=by simpa using h5
       have HAB:Hid (ansBytes op val cnt recs=[0,val]++recs.flatMap rec9):=by apply hide;unfold ansBytes;rw [if_neg h5,List.append_nil]
       clear h5
       go_wp2
       rw [← hw3]
       have HW3:=hide hw3;clear hw3 b0 a0 a1 a2
       go_loopw [8,9] (fun u i wr=>∃ k:Nat,k≤recs.length∧i=.int .i64 k∧KeepP (LtP w2.heap.size) w3 wr∧RW wr (LtP w2.heap.size) u ([0,val]++(recs.take k).flatMap rec9))
        (fun _ i _=>recs.length - (intOf i).toNat)
       case atStart=>exact ⟨0,by omega,rfl,KeepP.refl _ _,by simpa using RW3⟩
       case round =>
        obtain ⟨k,hk,rfl,hkp,hrw⟩:=hrel
        have HBr:=HB3.trans (hkp.below HLT.out)
        have r2:=(A3.kept hkp hPA).cell (i:=2) rfl
        by_cases hlt:k<recs.length
        · obtain ⟨r,hr⟩:∃ r,recs[k]?=some r:=⟨_,List.getElem?_eq_getElem hlt⟩
          obtain ⟨b,off,rfl,hb,q0,q1⟩:=(HS.out.below HBr).rec_ hr
          have hLQ:=HLT.out b hb
          have hUU:=HRU.out r (List.mem_of_getElem? hr)
          have HU:=hide hUU.2
          have HT:=hide (flat_take_succ rec9 recs k r hr)
          have hln:([0,val]++(recs.take k).flatMap rec9).length≤200000:=by
           rw [List.length_append,flat_len rec9 9 rec9_length,List.length_take];simp;omega
          generalize hcs:[0,val]++(recs.take k).flatMap rec9=cs at hrw hln
          have HCS:=hide hcs
          have hPr:∀ j,LtP w2.heap.size j→j<wr.heap.size:=fun j hj=>Nat.lt_of_lt_of_le (HP3.out j hj) hkp.size
          have hwb:IntKind.u8.wrap r.1=r.1 % 256:=by rw [IntKind.wrap_u8]
          have HWB:=hide hwb
          have HRW:=hide hrw
          have hown:=hrw.1
          have C2:∀ wk v1,(KeepP (LtP w2.heap.size) wr wk∧wk.cell? ⟨w.heap.size+1,2,none⟩=some (.slice (some ⟨b,off,none⟩) recs.length rc)∧wk.cell? ⟨b,off+k*2,none⟩=some (.int .u64 r.1)∧wk.cell? ⟨b,off+k*2+1,none⟩=some (.int .u64 r.2))→RW wk (LtP w2.heap.size) v1 (cs++[r.1 % 256]) →
           Calls Tryz.prog 95 #[v1,.int .u64 r.2] wk (Worded (LtP w2.heap.size) wk (cs++[r.1 % 256]++word8 r.2)) :=
           fun wk v1 h1 h2=>rword_any (LtP w2.heap.size) _ wk (fun j hj=>Nat.lt_of_lt_of_le (hPr j hj) h1.1.size) (by rw [List.length_append];simp;omega) v1 h2 _ HU.out
          have HC2:=hide C2
          have HPR:=hide hPr
          obtain ⟨i0,hi,hi0,hi1,hi2⟩:=info_parts u8_info
          have hk0:(0:Int)≤(k:Int):=by omega
          have hkl:(k:Int)<(recs.length:Int):=by omega
          clear C2 hr hcs hUU hPr hwb hrw
          go_wp2
          go_region_held3 (fun w'=>KeepP (LtP w2.heap.size) wr w'∧w'.cell? ⟨w.heap.size+1,2,none⟩=some (.slice (some ⟨b,off,none⟩) recs.length rc)∧w'.cell? ⟨b,off+k*2,none⟩=some (.int .u64 r.1)∧w'.cell? ⟨b,off+k*2+1,none⟩=some (.int .u64 r.2))
           (first | exact keepR hPA hLQ (KeepP.drew _ _) ⟨KeepP.refl _ _,r2,q0,q1⟩ | exact keepR hPA hLQ (KeepP.of_below (bl_drew (bA)) HPR.out) ⟨KeepP.refl _ _,r2,q0,q1⟩ | exact ⟨KeepP.refl _ _,r2,q0,q1⟩ | exact keepR hPA hLQ (by assumption:KeepP (LtP w2.heap.size) wr _) ⟨KeepP.refl _ _,r2,q0,q1⟩ | exact keepR hPA hLQ (by assumption) (by assumption))
           (first
             | (refine step_append_lies _ (by rfl) (.tmp 47) (.tmp 55) 44 (by rfl) 0 5 i0 (.int .u8 0) 1 1 Tryz.underlying44 hi hi0 hi1 hi2 (by rfl) (by decide) u8 _ _ (by rfl) (own_step hown (bl_drew (bA))) ⟨wr.heap.size,0,none⟩ 1 1 [.int .u8 (IntKind.u8.wrap r.1)] (by rfl) (by rfl) (blk_cells (Blk.new _ _ _).drew) (by simp [Value.oneCell']) (by omega) (by unfold maxLen;omega) (by omega) (by omega) (wr.heap.size+1) (by simp) ?_;intro g' cap w5 hown1 hgrow hat hlt';obtain ⟨p1,p2⟩:=rw_push HPR.out HRW.out (bl_drew (bA)) hown1 (news:=[r.1 % 256]) (by simp) (by rw [HWB.out,byCells_append];rfl) hgrow (by simpa using hat))
             | (go_at_call 95;((with_reducible refine (HC2.out _ _ (by assumption) (by assumption)).mono ?_);rintro e w' ⟨v',rfl,k',r'⟩)))
          have r3:RW w' (LtP w2.heap.size) v' (cs++rec9 r):=by
           rw [List.append_assoc] at r'
           exact r'
          clear r2 q0 q1
          go_wp2
          go_roundw
          case rel=>exact ⟨k+1,by omega,by go_num,hkp.trans (p2.trans k'),by rw [HT.out,← List.append_assoc,HCS.out];exact r3⟩
          case measure=>simp [intOf];omega
        · obtain rfl:recs.length=k:=by omega
          rw [List.take_length] at hrw
          generalize hbF:[0,val]++recs.flatMap rec9=bF at hrw
          have HBF:=hide hbF;clear hbF
          have rown:=rw_own (base':=w.heap.size) hrw HB2.size
          obtain ⟨QA,qcap,rfl,_⟩:=own_slice rown
          go_wp2
          go_ret2
          rw [HR.out,HI.out,if_neg (by simp),HAB.out,HBF.out]
          exact ⟨.slice QA _ qcap,rfl,rown,HBr⟩
 · have hf:hrespond op vs hrs pts val cnt recs=([],hcheck op vs hrs pts):=by unfold hrespond;rw [if_pos he]
   have hf2:hformat op vs hrs pts=([],hcheck op vs hrs pts):=by unfold hformat;rw [if_neg he]
   rw [hf]
   rw [hf2] at hF
   have he':(hcheck op vs hrs pts != 0)=true:=by rw [bne_iff_ne];exact he
   have HF:=hide hF;clear hF hf2 hf
   have HE:=hide he;clear he
   go_enter Tryz.func66,Tryz.ntmps66
   go_wp2_with fail
   rw [← hw0]
   have HW0:=hide hw0;clear hw0
   refine HF.out.mono ?_
   rintro e w1 ⟨v,rfl,hv1,hb1⟩
   go_wp2
   go_ret2
   exact ⟨_,rfl,World.ownsRow_nil _ _ _ _,bl_step hb0 hb1⟩
end
end
end Go.Proofs.YtpnoofphfomjoaaGreatDoor
