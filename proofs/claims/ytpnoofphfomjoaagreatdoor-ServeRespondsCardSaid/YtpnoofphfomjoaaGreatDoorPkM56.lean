/- RefHandle21 -/
import Derived.BigQuiet
import Derived.Deep.AppendLies
import Derived.Deep.QuietTactic
import Derived.Deep.RegionHeld3
import Derived.Deep.RegionLaw
import Derived.Lib.SliceRun
import Derived.Test.YtpnoofphfomjoaaGreatDoorPkM40
import Derived.Test.YtpnoofphfomjoaaGreatDoorPkM54
import Derived.Test.YtpnoofphfomjoaaGreatDoorPkM55
set_option maxRecDepth 1000000
set_option maxHeartbeats 8000000
namespace Go.Proofs.YtpnoofphfomjoaaGreatDoor
section
open Go.RowKit Go.Shelf
theorem ReqW.gsR {w:World} {hrs:List Rg} {HA:Option Addr} {gs:List Gr} {GA:Option Addr} {ps:List Pt} {PA:Option Addr} {pc:Nat} {qs:List ((Int × Int) × Int)} {QA:Option Addr} (h:ReqW w hrs HA gs GA ps PA pc qs QA):GsR w gs:=fun g hg=>⟨(h.gk g hg).1,(h.gk g hg).2,h.gj g hg⟩
theorem recs_off {w:World} {B g:Nat} {A:Option Addr} {recs:List (Int × Int)} (hs:Sl w B A (recCs recs)) (C:Blk w g 38 #[.int .i64 0,.int .i64 0,.slice none 0 0]) (h:recs≠[]) {x:Addr} (hx:A=some x):x.block≠g:=by
 intro e
 cases recs with
 | nil=>exact h rfl
 | cons r l =>
   obtain ⟨b,off,hA,_,hc⟩:=hs.open_ (by simp [recCs])
   rw [hx] at hA
   cases hA
   dsimp only at e
   subst e
   have h0:=hc 0 (.int .u64 r.1) rfl
   rw [cell_of_row w b _ _ _ (0,0) C] at h0
   rcases off with _ | _ | _ | off
   · simp at h0
   · simp at h0
   · simp at h0
   · simp at h0
section
variable (op vs pts:Int) (hrs:List Rg) (HA:Option Addr) (hc:Nat) (gs:List Gr) (GA:Option Addr) (gc:Nat) (ps:List Pt) (PA:Option Addr) (pc:Nat) (qs:List ((Int × Int) × Int)) (QA:Option Addr) (qc:Nat) (w:World)
variable (hr:ReqW w hrs HA gs GA ps PA pc qs QA)
include hr
theorem rhandle:Calls Tryz.prog 15 #[.agg #[.int .i64 op,.int .i64 vs,.slice HA hrs.length hc,.int .i64 pts,.slice GA gs.length gc,.slice PA ps.length pc,.slice QA qs.length qc]] w (ReadOut (hhandle op vs hrs pts gs ps qs) w):=by
 obtain ⟨rb,hrb⟩:∃ rb,rb=w.heap.size:=⟨_,rfl⟩
 obtain ⟨w0,hw0⟩:∃ w0,w0=(w.alloc (.cells #[.int .i64 op,.int .i64 vs,.slice HA hrs.length hc,.int .i64 pts,.slice GA gs.length gc,.slice PA ps.length pc,.slice QA qs.length qc] 41)).alloc (.cells #[.int .i64 0,.int .i64 0,.slice none 0 0] 38):=⟨_,rfl⟩
 have hb0:Below w.heap.size w w0:=by rw [hw0];exact bl_alloc (bA) _
 have B0:Blk w0 rb 41 #[.int .i64 op,.int .i64 vs,.slice HA hrs.length hc,.int .i64 pts,.slice GA gs.length gc,.slice PA ps.length pc,.slice QA qs.length qc]:=by rw [hw0,hrb];exact (Blk.new _ _ _).alloc _
 have C0:Blk w0 (rb+1) 38 #[.int .i64 0,.int .i64 0,.slice none 0 0]:=by rw [hw0,hrb];exact Blk.new2 _ _ _ _
 have h0:=hr.below hb0
 have HEN:=hide (rencode_any op vs pts hrs HA hc gs GA gc ps PA pc qs QA qc w0 h0.hh h0.hg h0.gk h0.hp h0.hq hr.qu)
 have HRN:=hide (fun (w':World) (hb:Below w.heap.size w w')=>rrun gs GA gc qs QA qc w' (hr.below hb).hg (hr.below hb).gsR (hr.below hb).hq hr.qj hr.qu)
 have HAN:=hide (fun (w':World) (hb:Below w.heap.size w w')=>ranswer_any op vs pts hrs HA hc gs GA gc ps PA pc qs QA qc w' (hr.below hb).hh (hr.below hb).hg (hr.below hb).gsR hr.pj (hr.below hb).hp (hr.below hb).hq hr.qu hr.cap)
 have HH:Hid (hhandle op vs hrs pts gs ps qs=if (hencode op vs hrs pts gs ps qs).2≠0 then (ansZero,(hencode op vs hrs pts gs ps qs).2) else if op=5 then hbatch gs qs else (⟨ansOp op gs ps,0,[]⟩,0)):=hide rfl
 have HV:Hid (ansV op vs hrs pts gs ps qs=if (hencode op vs hrs pts gs ps qs).2≠0 then (0,(hencode op vs hrs pts gs ps qs).2) else if op=5 then (0,2) else (ansOp op gs ps,0)):=hide rfl
 obtain ⟨⟨bs,err⟩,hE⟩:∃ E,E=hencode op vs hrs pts gs ps qs:=⟨_,rfl⟩
 rw [← hE] at HEN HH HV
 have q0:=B0.cell (i:=0) rfl
 have q1:=B0.cell (i:=1) rfl
 have q2:=B0.cell (i:=2) rfl
 have q3:=B0.cell (i:=3) rfl
 have q4:=B0.cell (i:=4) rfl
 have q5:=B0.cell (i:=5) rfl
 have q6:=B0.cell (i:=6) rfl
 have HB0:=hide hb0;have HBQ:=hide B0;have HC0:=hide C0
 have hrw:w.heap.size≤rb+1:=by omega
 clear hE h0 hr hb0 B0 C0
 generalize hrs.length=hn at *
 generalize gs.length=gn at *
 generalize ps.length=pn at *
 generalize qs.length=qn at *
 go_enter Tryz.func15,Tryz.ntmps15
 rw [hw0,hrb] at q0 q1 q2 q3 q4 q5 q6
 go_wp2_with fail
 rw [← hw0,← hrb]
 have HRB:=hide hrb
 clear hw0 hrb q0 q1 q2 q3 q4 q5 q6
 refine HEN.out.mono ?_
 rintro e w1 ⟨v1,rfl,hown,hb1⟩
 have B1:=HBQ.out.step hb1
 have C1:=HC0.out.step hb1
 have hbw:=bl_step HB0.out hb1
 have q0:=B1.cell (i:=0) rfl
 have q1:=B1.cell (i:=1) rfl
 have q2:=B1.cell (i:=2) rfl
 have q3:=B1.cell (i:=3) rfl
 have q4:=B1.cell (i:=4) rfl
 have q5:=B1.cell (i:=5) rfl
 have q6:=B1.cell (i:=6) rfl
 have z0:=C1.cell (i:=0) rfl
 have z1:=C1.cell (i:=1) rfl
 have z2:=C1.cell (i:=2) rfl
 have y0:=C1.frozen 0
 have y1:=C1.frozen 1
 have y2:=C1.frozen 2
 have HC1:=hide C1;have HBW:=hide hbw
 have HLT:Hid (rb+1<w1.heap.size):=hide C1.lt
 clear hown B1 C1 hb1 hbw HBQ HC0 HB0
 dsimp only
 by_cases he:err=0
 · subst he
   by_cases h5:op=5
   · subst h5
     have HE:Hid (hhandle 5 vs hrs pts gs ps qs=hbatch gs qs):=hide (by rw [HH.out];simp)
     have HR1:=hide (HRN.out w1 HBW.out)
     clear HH HV HAN HRN
     go_wp2_with fail
     refine HR1.out.mono ?_
     rintro e w2 ⟨RA,rc,rfl,hb2,hs2⟩
     have C2:=HC1.out.step hb2
     have hbw2:=bl_step HBW.out hb2
     have hne:(hbatch gs qs).1.recs≠[]→∀ x,RA=some x→x.block≠rb+1∨True:=fun _ _ _=>.inr trivial
     clear q0 q1 q2 q3 q4 q5 q6 z0 z1 z2 y0 y1 y2 hne
     have z0:=C2.cell (i:=0) rfl
     have z1:=C2.cell (i:=1) rfl
     have z2:=C2.cell (i:=2) rfl
     have y0:=C2.frozen 0
     have y1:=C2.frozen 1
     have y2:=C2.frozen 2
     obtain ⟨⟨⟨val,cnt,recs⟩,er⟩,hba⟩:∃ r,r=hbatch gs qs:=⟨_,rfl⟩
     rw [← hba] at hs2 HE ⊢
     dsimp only at hs2 ⊢
     have HS2:=hide hs2;have HC2:=hide C2
     have HNE:Hid (recs≠[]→∀ x,RA=some x→x.block≠rb+1):=hide fun h x hx=>recs_off hs2 C2 h hx
     clear hba hs2 C2 hb2 HC1 HR1
     go_wp2
     refine bodyPost_ret (results_r18 (p:=2) (u:=3) rfl rfl (((HC2.out.set 0 _).set 1 _).set 2 _)) rfl ?_
     exact readOut_end HE.out hbw2 hrw HS2.out HNE.out
   · have HE:Hid (hhandle op vs hrs pts gs ps qs=(⟨ansOp op gs ps,0,[]⟩,0)):=hide (by rw [HH.out];simp [h5])
     have HVE:Hid (ansV op vs hrs pts gs ps qs=(ansOp op gs ps,0)):=hide (by rw [HV.out];simp [h5])
     have HR1:=HAN.out w1 HBW.out
     rw [HVE.out] at HR1
     have HR2:=hide HR1
     clear HR1 HH HV HAN HRN HVE
     generalize ansOp op gs ps=av at *
     go_wp2_with fail
     refine HR2.out.mono ?_
     rintro e w2 ⟨rfl,hb2⟩
     have C2:=HC1.out.step hb2
     have hbw2:=bl_step HBW.out hb2
     clear q0 q1 q2 q3 q4 q5 q6 z0 z1 z2 y0 y1 y2
     have z0:=C2.cell (i:=0) rfl
     have z1:=C2.cell (i:=1) rfl
     have z2:=C2.cell (i:=2) rfl
     have y0:=C2.frozen 0
     have y1:=C2.frozen 1
     have y2:=C2.frozen 2
     have HC2:=hide C2
     clear C2 hb2 HC1 HR2
     go_wp2
     refine bodyPost_ret (results_r18 (p:=2) (u:=3) rfl rfl (((HC2.out.set 0 _).set 1 _).set 2 _)) rfl ?_
     exact readOut_end (recs:=[]) HE.out hbw2 hrw (Sl.nil _ _ _) (fun h=>absurd rfl h)
 · have heb:(err != 0)=true:=bne_iff_ne.2 he
   have HE:Hid (hhandle op vs hrs pts gs ps qs=(⟨0,0,[]⟩,err)):=hide (by rw [HH.out];simp [he];rfl)
   clear HH HV HAN HRN
   go_wp2
   refine bodyPost_ret (results_r18 (p:=2) (u:=3) rfl rfl (((HC1.out.set 0 _).set 1 _).set 2 _)) rfl ?_
   exact readOut_end (recs:=[]) HE.out HBW.out hrw (Sl.nil _ _ _) (fun h=>absurd rfl h)
end
end
end Go.Proofs.YtpnoofphfomjoaaGreatDoor
