/- ReadCap -/
import Derived.Test.YtpnoofphfomjoaaGreatDoorPkM07
import Derived.Test.YtpnoofphfomjoaaGreatDoorPkM11
import Derived.Test.YtpnoofphfomjoaaGreatDoorPkD00
set_option maxRecDepth 1000000
set_option maxHeartbeats 8000000
namespace Go.Proofs.YtpnoofphfomjoaaGreatDoor
section
open Go.RowKit
def ReadOutC (r:Ans × Int) (w:World) (e:Ending) (w':World):Prop :=
 ∃ A c,e=.returned (.tuple #[.agg #[.int .i64 r.1.val,.int .i64 r.1.cnt,.slice A r.1.recs.length c],.int .i64 r.2])∧Below w.heap.size w w'∧Sl w' w'.heap.size A (recCs r.1.recs)∧r.1.recs.length≤c
theorem readOutC_zero {w w1:World} {u0 u1 u2:Value} {r:Ans × Int} {er:Int} (hb:Below w.heap.size w w1) (hr:r=(ansZero,er)) :
 ReadOutC r w (.returned (.tuple #[.agg #[.int .i64 0,.int .i64 0,.slice none 0 0],.int .i64 er])) (((w1.setCell ⟨w.heap.size+1,0,none⟩ u0).setCell ⟨w.heap.size+1,1,none⟩ u1).setCell ⟨w.heap.size+1,2,none⟩ u2):=by
 subst hr
 exact ⟨none,0,rfl,((hb.setCell (by simp) _).setCell (by simp) _).setCell (by simp) _,Sl.nil _ _ _,Nat.le_refl _⟩
theorem readOutC_zero' {w w1:World} {u0 u1 u2:Value} {r:Ans × Int} {er:Int} {o:Obj} (hb:Below w.heap.size w w1) (hr:r=(ansZero,er)) :
 ReadOutC r w (.returned (.tuple #[.agg #[.int .i64 0,.int .i64 0,.slice none 0 0],.int .i64 er])) ((((w1.setCell ⟨w.heap.size+1,0,none⟩ u0).setCell ⟨w.heap.size+1,1,none⟩ u1).setCell ⟨w.heap.size+1,2,none⟩ u2).alloc o):=by
 subst hr
 exact ⟨none,0,rfl,bl_alloc (((hb.setCell (by simp) _).setCell (by simp) _).setCell (by simp) _) _,Sl.nil _ _ _,Nat.le_refl _⟩
theorem readOutC_some {w w1:World} {u0 u1 u2:Value} {r:Ans × Int} {a:Ans} {A:Option Addr} {c:Nat} (hb:Below w.heap.size w w1) (hr:r=(a,0)) (hs:Sl w1 w1.heap.size A (recCs a.recs)) (hA:∀ x,A=some x→x.block≠w.heap.size+1) (hcp:a.recs.length≤c:=by first | exact Nat.le_refl _ | (rw [recsOf_length];exact Nat.le_refl _) | (simp [recsOf_length])) :
 ReadOutC r w (.returned (.tuple #[.agg #[.int .i64 a.val,.int .i64 a.cnt,.slice A a.recs.length c],.int .i64 0])) (((w1.setCell ⟨w.heap.size+1,0,none⟩ u0).setCell ⟨w.heap.size+1,1,none⟩ u1).setCell ⟨w.heap.size+1,2,none⟩ u2):=by
 obtain ⟨A',c',he,hb',hs'⟩:=readOut_some (u0:=u0) (u1:=u1) (u2:=u2) (c:=c) hb hr hs hA
 subst hr
 have e1:A'=A∧c'=c:=by simpa using he.symm
 obtain ⟨rfl,rfl⟩:=e1
 exact ⟨A',c',rfl,hb',hs',hcp⟩
section
variable (op vs pts:Int) (hrs:List Rg) (HA:Option Addr) (hc:Nat) (bs:List Int) (BA:Option Addr) (bc:Nat) (w:World)
variable (hh:Sl w w.heap.size HA (rgCells hrs)) (hn:hrs.length≤maxLen) (hs:Sl w w.heap.size BA (byCells bs)) (hbc:bs.length≤bc) (hbl:bs.length≤100000) (hby:By bs)
include hh hn hs hbc hbl hby
theorem read_cap:Calls Tryz.prog 30 #[.agg #[.int .i64 op,.int .i64 vs,.slice HA hrs.length hc,.int .i64 pts],.slice BA bs.length bc] w (ReadOutC (hread op vs hrs pts bs) w):=by
 have HH:=hide hh;clear hh
 have HS:=hide hs;clear hs
 have HBY:=hide hby;clear hby
 obtain ⟨w0,hw0⟩:∃ w0,w0=(w.alloc (.cells #[.int .i64 op,.int .i64 vs,.slice HA hrs.length hc,.int .i64 pts] 24)).alloc (.cells #[.int .i64 0,.int .i64 0,.slice none 0 0] 33):=⟨_,rfl⟩
 have hb0:Below w.heap.size w w0:=by rw [hw0];exact bl_alloc (bA) _
 have hz0:w0.heap.size=w.heap.size+2:=by rw [hw0];simp
 have B0:Blk w0 w.heap.size 24 #[.int .i64 op,.int .i64 vs,.slice HA hrs.length hc,.int .i64 pts]:=by rw [hw0];exact (Blk.new _ _ _).alloc _
 have R0:Blk w0 (w.heap.size+1) 33 #[.int .i64 0,.int .i64 0,.slice none 0 0]:=by rw [hw0];exact Blk.new2 _ _ _ _
 have HZ0:=hide hz0;clear hz0
 have b00:=B0.cell (i:=0) rfl
 have b01:=B0.cell (i:=1) rfl
 have b02:=B0.cell (i:=2) rfl
 have b03:=B0.cell (i:=3) rfl
 have hF:=format_any vs hrs HA hc pts w0 ((HH.out.below hb0).more hb0.size) hn op
 by_cases he:hcheck op vs hrs pts=0
 · have hf2:hformat op vs hrs pts=(fbytes op vs hrs pts,0):=by unfold hformat;rw [if_pos he]
   rw [hf2] at hF
   have HF:=hide hF;clear hF hf2
   have HR:Hid (hread op vs hrs pts bs=if bs.length=1 then (ansZero,if 4≤bs.getD 0 0∧bs.getD 0 0≤8 then bs.getD 0 0 else 10)
    else if (bs.length:Int)≠hresp op vs hrs pts then (ansZero,8)
    else if bs.getD 0 0≠0 then (ansZero,10)
    else if isAns op pts (rdAns op pts bs).val (rdAns op pts bs).cnt (rdAns op pts bs).recs=false then (ansZero,10)
    else (rdAns op pts bs,0)):=by
    apply hide;unfold hread;rw [if_neg (by simpa using he)]
   obtain ⟨ho1,ho2,x1,x2,x3,x4,hp5,hpn,x5⟩:=hcheck_zero he
   clear x1 x2 x3 x4 x5
   have hrq:hresp op vs hrs pts=if op=5 then 4+pts*9 else 2:=by unfold hresp;rw [if_pos he]
   have HRQ:=hide hrq
   have HE:=hide he;clear he hrq
   have HP5:=hide hp5;have HPN:=hide hpn
   clear hp5 hpn
   by_cases h1:bs.length=1
   · obtain ⟨x,rfl⟩:∃ x,bs=[x]:=by
      match bs,h1 with
      | [x],_=>exact ⟨x,rfl⟩
     obtain ⟨b,off,rfl,hb,hcell⟩:=HS.out.by_ (by simp)
     have c0:=hcell 0 x rfl
     rw [Nat.add_zero] at c0
     have HX:=hide (HBY.out x (by simp))
     obtain ⟨hx0,hx1⟩:=HX.out
     clear hcell h1 HS HBY hbl
     simp only [List.length_cons,List.length_nil,List.getD_cons_zero,if_true,Nat.zero_add] at HR ⊢ hbc
     have hbw:b<w0.heap.size:=by have:=HZ0.out;omega
     go_enter Tryz.func30,Tryz.ntmps30
     go_wp2_with fail
     rw [← hw0]
     have HW0:=hide hw0;clear hw0
     refine HF.out.mono ?_
     rintro e w1 ⟨v,rfl,hv1,hb1⟩
     have R1:=R0.step hb1
     have r0:=R1.cell (i:=0) rfl
     have r1:=R1.cell (i:=1) rfl
     have r2:=R1.cell (i:=2) rfl
     have f0:=R1.frozen 0
     have f1:=R1.frozen 1
     have f2:=R1.frozen 2
     have HBw:=bl_step hb0 hb1
     have c1:=(HBw.cell (p:=⟨b,off,none⟩) hb).trans c0
     clear c0
     by_cases hx:4≤x∧x≤8
     · obtain ⟨hx2,hx3⟩:=hx
       go_wp2
       obtain ⟨e0,e1,e2,_⟩:=res3 R1 (u1:=.int .i64 0) (u2:=.int .i64 0) (u3:=.slice none 0 0)
       exact bodyPost_ret (v:=.tuple #[.agg #[.int .i64 0,.int .i64 0,.slice none 0 0],.int .i64 x]) (by simp [results,Tryz.results30,go_sem,e0,e1,e2]) rfl (readOutC_zero HBw (by rw [HR.out,if_pos ⟨by omega,by omega⟩]))
     · have hxx:x<4∨8<x:=by omega
       rcases hxx with hxx | hxx
       all_goals
        go_wp2
        obtain ⟨e0,e1,e2,_⟩:=res3 R1 (u1:=.int .i64 0) (u2:=.int .i64 0) (u3:=.slice none 0 0)
        exact bodyPost_ret (v:=.tuple #[.agg #[.int .i64 0,.int .i64 0,.slice none 0 0],.int .i64 10]) (by simp [results,Tryz.results30,go_sem,e0,e1,e2]) rfl (readOutC_zero HBw (by rw [HR.out,if_neg (by omega)]))
   · have h1':((bs.length:Int) == 1)=false:=by simp;omega
     have HR1:Hid (hread op vs hrs pts bs=if (bs.length:Int)≠hresp op vs hrs pts then (ansZero,8)
      else if bs.getD 0 0≠0 then (ansZero,10)
      else if isAns op pts (rdAns op pts bs).val (rdAns op pts bs).cnt (rdAns op pts bs).recs=false then (ansZero,10)
      else (rdAns op pts bs,0)):=by apply hide;rw [HR.out,if_neg h1]
     have H1:=hide h1;clear h1 HR
     go_enter Tryz.func30,Tryz.ntmps30
     go_wp2_with fail
     rw [← hw0]
     have HW0:=hide hw0;clear hw0
     refine HF.out.mono ?_
     rintro e w1 ⟨v,rfl,hv1,hb1⟩
     have R1:=R0.step hb1
     have B1:=B0.step hb1
     have HBw:=bl_step hb0 hb1
     have b10:=B1.cell (i:=0) rfl
     have b11:=B1.cell (i:=1) rfl
     have b12:=B1.cell (i:=2) rfl
     have b13:=B1.cell (i:=3) rfl
     clear b00 b01 b02 b03
     go_wp2_with fail
     refine (response_any vs hrs HA hc pts w1 ((HH.out.below HBw).more HBw.size) hn op).mono ?_
     rintro e w2 ⟨rfl,hb2⟩
     have R2:=R1.step hb2
     have B2:=B1.step hb2
     have HB2:=bl_step HBw hb2
     clear b10 b11 b12 b13
     obtain ⟨Q,hQ⟩:∃ Q,hresp op vs hrs pts=Q:=⟨_,rfl⟩
     rw [hQ]
     have HQ:=hide hQ;clear hQ
     by_cases hlen:(bs.length:Int)=Q
     · have HLEN:=hide hlen
       have hd0:Hid (hread op vs hrs pts bs=if bs.getD 0 0≠0 then (ansZero,10)
        else if isAns op pts (rdAns op pts bs).val (rdAns op pts bs).cnt (rdAns op pts bs).recs=false then (ansZero,10)
        else (rdAns op pts bs,0)):=by apply hide;rw [HR1.out,HQ.out,if_neg (by simpa using hlen)]
       have hq:=HRQ.out
       rw [HQ.out] at hq
       have hlen2:2≤bs.length:=by
        by_cases h5:op=5
        · have:=HP5.out h5;rw [if_pos h5] at hq;omega
        · rw [if_neg h5] at hq;omega
       have HQQ:=hide hq
       clear hq HR1
       subst hlen
       obtain ⟨s,x,t,rfl⟩:∃ s x t,bs=s::x::t:=by
        match bs,hlen2 with
        | s::x::t,_=>exact ⟨s,x,t,rfl⟩
       have hs01:=HBY.out s (by simp)
       have hx01:=HBY.out x (by simp)
       obtain ⟨hs0,hs1⟩:=hs01
       obtain ⟨hx0,hx1⟩:=hx01
       have HBT:Hid (By t):=hide HBY.out.tail.tail
       have htl:t.length≤100000:=by simp at hbl;omega
       obtain ⟨w3,hw3⟩:∃ w3,w3=w2.alloc (.cells #[.slice BA (s::x::t).length bc] 127):=⟨_,rfl⟩
       have hb3:Below w2.heap.size w2 w3:=by rw [hw3];exact bA
       have hz3:w3.heap.size=w2.heap.size+1:=by rw [hw3];simp
       have hLT:∀ k,k<w.heap.size→LtP w2.heap.size k:=fun k hk=>Nat.lt_of_lt_of_le hk HB2.size
       have hP3:∀ k,LtP w2.heap.size k→k<w3.heap.size:=fun k hk=>by unfold LtP at hk;omega
       have RS3:RS w3 (LtP w2.heap.size) w.heap.size w2.heap.size (s::x::t) :=
        ⟨BA,bc,by rw [hw3];exact Blk.new _ _ _,by unfold LtP;omega,hbc,(HS.out.below HB2).below (hb3.mono HB2.size)⟩
       have hPR:LtP w2.heap.size (w.heap.size+1):=R2.lt
       have hPB:LtP w2.heap.size w.heap.size:=B2.lt
       have HLT:=hide hLT;have HP3:=hide hP3;have HZ3:=hide hz3
       clear hLT hP3 hz3
       go_wp2_with fail
       rw [← List.length_cons,← List.length_cons,← hw3]
       have HW3:=hide hw3;clear hw3
       refine (byte_any (LtP w2.heap.size) w.heap.size w2.heap.size w3 HLT.out s _ RS3 (by rw [List.length_cons];omega)).mono ?_
       rintro e w4 ⟨rfl,k4,RS4⟩
       go_wp2_with fail
       refine (byte_any (LtP w2.heap.size) w.heap.size w2.heap.size w4 HLT.out x _ RS4 (by omega)).mono ?_
       rintro e w5 ⟨rfl,k5,RS5⟩
       have k35:=k4.trans k5
       obtain ⟨w6,hw6⟩:∃ w6,w6=w5.alloc (.cells #[.int .i64 x,.int .i64 0,.slice none 0 0] 33):=⟨_,rfl⟩
       have hb6:Below w5.heap.size w5 w6:=by rw [hw6];exact bA
       have A6:Blk w6 w5.heap.size 33 #[.int .i64 x,.int .i64 0,.slice none 0 0]:=by rw [hw6];exact Blk.new _ _ _
       have hsz5:w3.heap.size≤w5.heap.size:=k35.size
       have k36:KeepP (LtP w2.heap.size) w3 w6:=k35.trans (KeepP.of_below hb6 (fun k hk=>Nat.lt_of_lt_of_le (HP3.out k hk) hsz5))
       have B3:=B2.step hb3
       have R3:=R2.step hb3
       have B6:=B3.kept k36 hPB
       have R6:=R3.kept k36 hPR
       have HB6:Below w.heap.size w w6:=(bl_step HB2 hb3).trans (k36.below HLT.out)
       have B5:=B3.kept k35 hPB
       have R5:=R3.kept k35 hPR
       have q0:=B5.cell (i:=0) rfl
       have q1:=B5.cell (i:=1) rfl
       have q2:=B5.cell (i:=2) rfl
       have q3:=B5.cell (i:=3) rfl
       have hBlt:=B5.lt
       have HB5:Below w.heap.size w w5:=(bl_step HB2 hb3).trans (k35.below HLT.out)
       have hb5w:w.heap.size+1<w5.heap.size:=by have:w.heap.size+1<w2.heap.size:=hPR;have:=hb3.size;omega
       by_cases h5:op=5
       · subst h5
         obtain ⟨hp1,hp2⟩:=HP5.out rfl
         obtain ⟨n,rfl⟩:∃ n:Nat,pts=(n:Int):=Int.eq_ofNat_of_zero_le (by omega)
         have htn:t.length=2+9*n:=by
          have:=HQQ.out;rw [if_pos rfl] at this;simp at this;omega
         obtain ⟨lo,hi,t2,rfl⟩:∃ lo hi t2,t=lo::hi::t2:=by
          match t,htn with
          | lo::hi::t2,_=>exact ⟨lo,hi,t2,rfl⟩
          | [],h=>simp at h;omega
          | [_],h=>simp at h;omega
         obtain ⟨hl0,hl1⟩:=HBT.out lo (by simp)
         obtain ⟨hh0,hh1⟩:=HBT.out hi (by simp)
         have HT2:Hid (By t2):=hide HBT.out.tail.tail
         have ht2:t2.length=9*n:=by simp at htn;omega
         have hor:=or_shift8 lo hi hl0 hl1 hh0 hh1
         have hra:Hid (rdAns 5 n (s::x::lo::hi::t2)=⟨x,lo+hi*256,recsOf t2 n⟩):=by apply hide;unfold rdAns;rw [if_pos rfl,if_pos rfl];rfl
         have HD0:Hid (hread 5 vs hrs n (s::x::lo::hi::t2)=if s≠0 then (ansZero,10) else if isAns 5 n x (lo+hi*256) (recsOf t2 n)=false then (ansZero,10) else (⟨x,lo+hi*256,recsOf t2 n⟩,0)):=by
          apply hide;rw [hd0.out,hra.out];rfl
         have hmf:∀ (fn:Fn) (first cap:Array Value) (w:World),(Instr.makeFunc fn first cap).run Tryz.prog w=.ok (.func fn first cap) w:=fun _ _ _ _=>rfl
         have hgn:w2.heap.size≠w5.heap.size:=by have:=hb3.size;have:=HZ3.out;omega
         have hnab:¬ LtP w2.heap.size w5.heap.size:=by have:=hb3.size;unfold LtP;omega
         have RS6:RS w6 (Plus (LtP w2.heap.size) w5.heap.size) w.heap.size w2.heap.size (lo::hi::t2) :=
          (RS5.step hb6 HLT.out (fun k hk=>Nat.lt_of_lt_of_le (HP3.out k hk) hsz5)).plus hgn
         have HLP:Hid (∀ k,k<w.heap.size→Plus (LtP w2.heap.size) w5.heap.size k):=hide fun k hk=>.inl (HLT.out k hk)
         have hPR':Plus (LtP w2.heap.size) w5.heap.size (w.heap.size+1):=.inl hPR
         have hPB':Plus (LtP w2.heap.size) w5.heap.size w.heap.size:=.inl hPB
         have hPA':Plus (LtP w2.heap.size) w5.heap.size w5.heap.size:=.inr rfl
         have HNAB:=hide hnab;have HGN:=hide hgn
         have HHT:=hide ht2
         clear hnab hgn htn htl hbl
         have htl2:t2.length≤40000:=by rw [HHT.out];omega
         go_wp2_with fail
         rw [← hw6]
         have HW6:=hide hw6;clear hw6
         refine (byte_any (Plus (LtP w2.heap.size) w5.heap.size) w.heap.size w2.heap.size w6 HLP.out lo _ RS6 (by rw [List.length_cons];omega)).mono ?_
         rintro e w7 ⟨rfl,k7,RS7⟩
         go_wp2_with fail
         refine (byte_any (Plus (LtP w2.heap.size) w5.heap.size) w.heap.size w2.heap.size w7 HLP.out hi _ RS7 (by omega)).mono ?_
         rintro e w8 ⟨rfl,k8,RS8⟩
         have k68:=k7.trans k8
         have A8:=A6.kept k68 hPA'
         have B8:=B6.kept k68 hPB'
         have R8:=R6.kept k68 hPR'
         clear q0 q1 q2 q3
         have a1:=A8.cell (i:=1) rfl
         have g1:=A8.frozen 1
         have A8s:=A8.set 1 (.int .i64 (lo+hi*256))
         have B8s:=B8.far (p:=⟨w5.heap.size,1,none⟩) (by have:=B5.lt;simp;omega) (.int .i64 (lo+hi*256))
         have R8s:=R8.far (p:=⟨w5.heap.size,1,none⟩) (by simp;omega) (.int .i64 (lo+hi*256))
         have q3:=B8s.cell (i:=3) rfl
         have RS8s:=(((RS8.mono (R:=LtP w2.heap.size) (fun k hk=>.inl hk)).far HGN.out HNAB.out HLT.out 1 (.int .i64 (lo+hi*256))).plus HGN.out)
         have K8s:KeepP (LtP w2.heap.size) w6 (w8.setCell ⟨w5.heap.size,1,none⟩ (.int .i64 (lo+hi*256))):=(k68.mono (fun k hk=>.inl hk)).trans (KeepP.set HNAB.out _ _ _)
         have hsz8:w6.heap.size≤(w8.setCell ⟨w5.heap.size,1,none⟩ (.int .i64 (lo+hi*256))).heap.size:=K8s.size
         have hP8:∀ k,Plus (LtP w2.heap.size) w5.heap.size k→k<(w8.setCell ⟨w5.heap.size,1,none⟩ (.int .i64 (lo+hi*256))).heap.size:=fun k hk=>by
          rcases hk with hk | hk
          · have:=HP3.out k hk;have:=hb6.size;omega
          · have:=A6.lt;omega
         have TK:=takeRec_any (Plus (LtP w2.heap.size) w5.heap.size) w.heap.size w2.heap.size _ HLP.out t2 n (by rw [HHT.out];exact Nat.le_refl _) (by omega) HT2.out hP8 RS8s
         have HTK:=hide TK;have HRS8s:=hide RS8s;have HP8:=hide hP8;have HA8s:=hide A8s;have HR8s:=hide R8s;have HB8s:=hide B8s;have HK8s:=hide K8s
         clear TK RS8s hP8 A8s R8s B8s K8s hsz8
         go_wp2_with fail
         refine HTK.out.mono ?_
         rintro e w9 ⟨TA,rfl,k9,RS9,hsl9,hTA⟩
         have A9:=HA8s.out.kept k9 hPA'
         have B9:=HB8s.out.kept k9 hPB'
         have R9:=HR8s.out.kept k9 hPR'
         have HB9:Below w.heap.size w w9:=HB6.trans ((HK8s.out.trans (k9.mono (fun k hk=>.inl hk))).below HLT.out)
         have A9s:=A9.set 2 (.slice TA n n)
         have B9s:=B9.far (p:=⟨w5.heap.size,2,none⟩) (by have:=B5.lt;simp;omega) (.slice TA n n)
         have R9s:=R9.far (p:=⟨w5.heap.size,2,none⟩) (by simp;omega) (.slice TA n n)
         have HB9s:Below w.heap.size w (w9.setCell ⟨w5.heap.size,2,none⟩ (.slice TA n n)):=HB9.setCell (by simp;omega) _
         have hsl9s:Sl (w9.setCell ⟨w5.heap.size,2,none⟩ (.slice TA n n)) (w9.setCell ⟨w5.heap.size,2,none⟩ (.slice TA n n)).heap.size TA (recCs (recsOf t2 n)):=by
          rcases hsl9 with h | ⟨b',o',rfl,hlt',hc'⟩
          · exact .inl h
          · refine .inr ⟨b',o',rfl,by simpa using hlt',fun j u hu=>(World.cell?_of_block (Below.heap_setCell w9 _ _ b' ?_)).trans (hc' j u hu)⟩
            rintro rfl
            exact hTA _ rfl hPA'
         have hTR:∀ y,TA=some y→y.block≠w.heap.size+1:=fun y hy e=>hTA y hy (by rw [e];exact hPR')
         have HTR:=hide hTR;have HA9s:=hide A9s;have HB9b:=hide B9s;have HR9s:=hide R9s;have HSL:=hide hsl9s
         clear a1 g1 q3 hTR A9s B9s R9s hsl9s hsl9 hTA
         have a2:=A9.cell (i:=2) rfl
         have g2:=A9.frozen 2
         by_cases hst:s=0
         · subst hst
           have hA9l:=A9.lt
           have s0:=HA9s.out.cell (i:=0) rfl
           have s1:=HA9s.out.cell (i:=1) rfl
           have s2:=HA9s.out.cell (i:=2) rfl
           have p0:=HB9b.out.cell (i:=0) rfl
           have p1:=HB9b.out.cell (i:=1) rfl
           have p2:=HB9b.out.cell (i:=2) rfl
           have p3:=HB9b.out.cell (i:=3) rfl
           have IA:=isAnswer_at 5 vs n x (lo+hi*256) HA TA hrs.length hc n (recsOf t2 n) _ HSL.out (by rw [recsOf_length];unfold maxLen;omega) (by omega) (by omega) 1 (.inr (.inl ⟨rfl,rfl⟩)) rfl
           rw [recsOf_length] at IA
           have HIAC:=hide IA;clear IA
           go_wp2_with fail
           refine HIAC.out.mono ?_
           rintro e w10 ⟨rfl,hb10⟩
           have HB10:=bl_step HB9s hb10
           have A10:=HA9s.out.step hb10
           have R10:=HR9s.out.step hb10
           obtain ⟨ia,hia⟩:∃ ia,isAns 5 n x (lo+hi*256) (recsOf t2 n)=ia:=⟨_,rfl⟩
           rw [hia]
           have HIA:=hide hia;clear hia a2 g2 s0 s1 s2 p0 p1 p2 p3
           have s0:=A10.cell (i:=0) rfl
           have s1:=A10.cell (i:=1) rfl
           have s2:=A10.cell (i:=2) rfl
           have r0:=R10.cell (i:=0) rfl
           have r1:=R10.cell (i:=1) rfl
           have r2:=R10.cell (i:=2) rfl
           have f0:=R10.frozen 0
           have f1:=R10.frozen 1
           have f2:=R10.frozen 2
           cases ia
           · go_wp2
             obtain ⟨e0,e1,e2,_⟩:=res3 R10 (u1:=.int .i64 0) (u2:=.int .i64 0) (u3:=.slice none 0 0)
             exact bodyPost_ret (v:=.tuple #[.agg #[.int .i64 0,.int .i64 0,.slice none 0 0],.int .i64 10]) (by simp [results,Tryz.results30,go_sem,e0,e1,e2]) rfl (readOutC_zero HB10 (by rw [HD0.out,if_neg (by simp),HIA.out,if_pos rfl]))
           · go_wp2
             obtain ⟨e0,e1,e2,_⟩:=res3 R10 (u1:=.int .i64 x) (u2:=.int .i64 (lo+hi*256)) (u3:=.slice TA n n)
             have RO:=readOutC_some (r:=hread 5 vs hrs n (0::x::lo::hi::t2)) (u0:=.int .i64 x) (u1:=.int .i64 (lo+hi*256)) (u2:=.slice TA n n) (a:=⟨x,lo+hi*256,recsOf t2 n⟩) (c:=n) HB10 (by rw [HD0.out,if_neg (by simp),HIA.out,if_neg (by simp)]) ((HSL.out.below hb10).more hb10.size) HTR.out
             rw [recsOf_length] at RO
             exact bodyPost_ret (v:=.tuple #[.agg #[.int .i64 x,.int .i64 (lo+hi*256),.slice TA n n],.int .i64 0]) (by simp [results,Tryz.results30,go_sem,e0,e1,e2]) rfl RO
         · have hst':(s != 0)=true:=by simpa using hst
           have HST:=hide hst;clear hst
           have r0:=HR9s.out.cell (i:=0) rfl
           have r1:=HR9s.out.cell (i:=1) rfl
           have r2:=HR9s.out.cell (i:=2) rfl
           have f0:=HR9s.out.frozen 0
           have f1:=HR9s.out.frozen 1
           have f2:=HR9s.out.frozen 2
           go_wp2
           obtain ⟨e0,e1,e2,_⟩:=res3 HR9s.out (u1:=.int .i64 0) (u2:=.int .i64 0) (u3:=.slice none 0 0)
           exact bodyPost_ret (v:=.tuple #[.agg #[.int .i64 0,.int .i64 0,.slice none 0 0],.int .i64 10]) (by simp [results,Tryz.results30,go_sem,e0,e1,e2]) rfl (readOutC_zero HB9s (by rw [HD0.out,if_pos HST.out]))
       · have h5':(op == 5)=false:=by simpa using h5
         have hpts:=HPN.out h5
         subst hpts
         have ht:t=[]:=by
          have:=HQQ.out;rw [if_neg h5] at this
          exact List.eq_nil_of_length_eq_zero (by simp at this;omega)
         subst ht
         have hra:Hid (rdAns op 0 [s,x]=⟨x,0,[]⟩):=by apply hide;unfold rdAns;rw [if_neg h5,if_neg h5];rfl
         have HD0:Hid (hread op vs hrs 0 [s,x]=if s≠0 then (ansZero,10) else if isAns op 0 x 0 []=false then (ansZero,10) else (⟨x,0,[]⟩,0)):=by
          apply hide;rw [hd0.out,hra.out];rfl
         have hM:∃ M,(op=3∧M=3∨op=5∧M=1∨(op == 3)=false∧(op == 5)=false∧M=2)∧most op=M:=by
          by_cases h3:op=3
          · exact ⟨3,.inl ⟨h3,rfl⟩,by unfold most;rw [if_pos h3]⟩
          · exact ⟨2,.inr (.inr ⟨by simpa using h3,h5',rfl⟩),by unfold most;rw [if_neg h3,if_neg h5]⟩
         obtain ⟨M,hM1,hM2⟩:=hM
         have HM1:=hide hM1;have HM2:=hide hM2
         clear hM1 hM2 h5
         have a0:=A6.cell (i:=0) rfl
         have a1:=A6.cell (i:=1) rfl
         have a2:=A6.cell (i:=2) rfl
         have hA6:=A6.lt
         by_cases hst:s=0
         · subst hst
           go_wp2_with fail
           rw [← hw6]
           have HW6:=hide hw6;clear hw6
           refine (isAnswer_at op vs 0 x 0 HA none hrs.length hc 0 [] w6 (Sl.nil _ _ _) (by simp [maxLen]) (by omega) (by omega) M HM1.out HM2.out).mono ?_
           rintro e w7 ⟨rfl,hb7⟩
           have HB7:=bl_step HB6 hb7
           have A7:=A6.step hb7
           have R7:=R6.step hb7
           obtain ⟨ia,hia⟩:∃ ia,isAns op 0 x 0 []=ia:=⟨_,rfl⟩
           rw [hia]
           have HIA:=hide hia;clear hia a0 a1 a2
           have a0:=A7.cell (i:=0) rfl
           have a1:=A7.cell (i:=1) rfl
           have a2:=A7.cell (i:=2) rfl
           have r0:=R7.cell (i:=0) rfl
           have r1:=R7.cell (i:=1) rfl
           have r2:=R7.cell (i:=2) rfl
           have f0:=R7.frozen 0
           have f1:=R7.frozen 1
           have f2:=R7.frozen 2
           cases ia
           · go_wp2
             obtain ⟨e0,e1,e2,_⟩:=res3 R7 (u1:=.int .i64 0) (u2:=.int .i64 0) (u3:=.slice none 0 0)
             exact bodyPost_ret (v:=.tuple #[.agg #[.int .i64 0,.int .i64 0,.slice none 0 0],.int .i64 10]) (by simp [results,Tryz.results30,go_sem,e0,e1,e2]) rfl (readOutC_zero HB7 (by rw [HD0.out,if_neg (by simp),HIA.out,if_pos rfl]))
           · go_wp2
             obtain ⟨e0,e1,e2,_⟩:=res3 R7 (u1:=.int .i64 x) (u2:=.int .i64 0) (u3:=.slice none 0 0)
             exact bodyPost_ret (v:=.tuple #[.agg #[.int .i64 x,.int .i64 0,.slice none 0 0],.int .i64 0]) (by simp [results,Tryz.results30,go_sem,e0,e1,e2]) rfl (readOutC_some (a:=⟨x,0,[]⟩) HB7 (by rw [HD0.out,if_neg (by simp),HIA.out,if_neg (by simp)]) (Sl.nil _ _ _) (by simp))
         · have hst':(s != 0)=true:=by simpa using hst
           have HST:=hide hst;clear hst
           have r0:=R5.cell (i:=0) rfl
           have r1:=R5.cell (i:=1) rfl
           have r2:=R5.cell (i:=2) rfl
           have f0:=R5.frozen 0
           have f1:=R5.frozen 1
           have f2:=R5.frozen 2
           go_wp2
           obtain ⟨e0,e1,e2,_⟩:=res3 R5 (u1:=.int .i64 0) (u2:=.int .i64 0) (u3:=.slice none 0 0)
           exact bodyPost_ret (v:=.tuple #[.agg #[.int .i64 0,.int .i64 0,.slice none 0 0],.int .i64 10]) (by simp [results,Tryz.results30,go_sem,e0,e1,e2,hb5w]) rfl (readOutC_zero' HB5 (by rw [HD0.out,if_pos HST.out]))
     · have hlen':((bs.length:Int) != Q)=true:=by simpa using hlen
       have HL:=hide hlen;clear hlen
       have r0:=R2.cell (i:=0) rfl
       have r1:=R2.cell (i:=1) rfl
       have r2:=R2.cell (i:=2) rfl
       have f0:=R2.frozen 0
       have f1:=R2.frozen 1
       have f2:=R2.frozen 2
       go_wp2
       obtain ⟨e0,e1,e2,_⟩:=res3 R2 (u1:=.int .i64 0) (u2:=.int .i64 0) (u3:=.slice none 0 0)
       exact bodyPost_ret (v:=.tuple #[.agg #[.int .i64 0,.int .i64 0,.slice none 0 0],.int .i64 8]) (by simp [results,Tryz.results30,go_sem,e0,e1,e2]) rfl (readOutC_zero HB2 (by rw [HR1.out,HQ.out,if_pos HL.out]))
 · have hf2:hformat op vs hrs pts=([],hcheck op vs hrs pts):=by unfold hformat;rw [if_neg he]
   rw [hf2] at hF
   have HF:=hide hF;clear hF hf2
   have HR:Hid (hread op vs hrs pts bs=(ansZero,hcheck op vs hrs pts)):=by apply hide;unfold hread;rw [if_pos he]
   have he':(hcheck op vs hrs pts != 0)=true:=by rw [bne_iff_ne];exact he
   have HE:=hide he;clear he
   go_enter Tryz.func30,Tryz.ntmps30
   go_wp2_with fail
   rw [← hw0]
   have HW0:=hide hw0;clear hw0
   refine HF.out.mono ?_
   rintro e w1 ⟨v,rfl,hv1,hb1⟩
   have R1:=R0.step hb1
   have r0:=R1.cell (i:=0) rfl
   have r1:=R1.cell (i:=1) rfl
   have r2:=R1.cell (i:=2) rfl
   have f0:=R1.frozen 0
   have f1:=R1.frozen 1
   have f2:=R1.frozen 2
   have HBw:=bl_step hb0 hb1
   obtain ⟨ec,hec⟩:∃ ec,hcheck op vs hrs pts=ec:=⟨_,rfl⟩
   rw [hec] at he' ⊢
   have HEC:=hide hec;clear hec
   go_wp2
   obtain ⟨e0,e1,e2,_⟩:=res3 R1 (u1:=.int .i64 0) (u2:=.int .i64 0) (u3:=.slice none 0 0)
   exact bodyPost_ret (v:=.tuple #[.agg #[.int .i64 0,.int .i64 0,.slice none 0 0],.int .i64 ec]) (by simp [results,Tryz.results30,go_sem,e0,e1,e2]) rfl (readOutC_zero HBw (by rw [HR.out,HEC.out]))
end
end
end Go.Proofs.YtpnoofphfomjoaaGreatDoor
