/- Req21 LawHandles21 -/
import Derived.BigQuiet
import Derived.Deep.AppendLies
import Derived.Deep.QuietTactic
import Derived.Deep.RegionHeld3
import Derived.Deep.RegionLaw
import Derived.Lib.SliceRun
import Derived.Test.YtpnoofphfomjoaaGreatDoorPkM56
import Derived.Test.YtpnoofphfomjoaaGreatDoorPkM57
set_option maxRecDepth 1000000
set_option maxHeartbeats 8000000
namespace Go.Proofs.YtpnoofphfomjoaaGreatDoor
section
open Go.RowKit Go.Shelf
section
variable {w:World} {hrs:List Rg} {HA:Option Addr} {gs:List Gr} {GA:Option Addr} {ps:List Pt} {PA:Option Addr} {pc:Nat} {qs:List ((Int × Int) × Int)} {QA:Option Addr}
theorem ReqW.reqP (h:ReqW w hrs HA gs GA ps PA pc qs QA) (h250:∀ g∈gs,g.1.n≤250):ReqP w (fun k=>k<w.heap.size) hrs HA gs GA ps PA pc qs QA :=
 ⟨h.hh.slP fun _ h=>h,h.hn,h.hg.slP fun _ h=>h,fun g hg=>⟨(h.gk g hg).1,(h.gk g hg).2.slP fun _ h=>h,h.gj g hg,by have:=h250 g hg;have:=(h.gk g hg).1;omega⟩,h.hp.slP fun _ h=>h,h.pj,h.cap,h.hq.slP fun _ h=>h,h.qj,h.qu⟩
def Handled (a:Ans) (er:Int) (w:World) (e:Ending) (w':World):Prop:=∃ A c,e=.returned (.tuple #[.agg #[.int .i64 a.val,.int .i64 a.cnt,.slice A a.recs.length c],.int .i64 er])∧Below w.heap.size w w'∧Sl w' w'.heap.size A (recCs a.recs)
theorem handle_nil (op vs pts:Int) (hc gc qc:Nat) (h:ReqW w hrs HA gs GA ps PA pc qs QA) (h250:∀ g∈gs,g.1.n≤250) (hw:MW w) :
 Calls Tryz.prog 14 #[.pointer none,.agg #[.int .i64 op,.int .i64 vs,.slice HA hrs.length hc,.int .i64 pts,.slice GA gs.length gc,.slice PA ps.length pc,.slice QA qs.length qc]] w (Handled (hhandle op vs hrs pts gs ps qs).1 (hhandle op vs hrs pts gs ps qs).2 w):=by
 refine (handle_any (fun k=>k<w.heap.size) none [] op vs pts hrs HA hc gs GA gc ps PA pc qs QA qc w (fun _ h=>h) hw.2 hw trivial (.inl rfl) (h.reqP h250)).mono ?_
 rintro e w' ⟨A,c,he,hk,_,hs⟩
 exact ⟨A,c,he,hk.below fun _ h=>h,hs⟩
end
end
section
open Go.RowKit Go.Shelf
theorem hhandle_len (op vs pts:Int) (hrs:List Rg) (gs:List Gr) (ps:List Pt) (qs:List ((Int × Int) × Int)):(hhandle op vs hrs pts gs ps qs).1.recs.length≤qs.length:=by
 unfold hhandle
 split
 · simp [ansZero]
 · split
   · unfold hbatch
     split
     · simp [ansZero]
     · dsimp only
       rw [isort_length]
       unfold hrecs
       rw [List.length_map]
       exact Nat.le_refl _
   · simp
section
variable (op vs pts:Int) (hrs:List Rg) (HA:Option Addr) (hc:Nat) (gs:List Gr) (GA:Option Addr) (gc:Nat) (ps:List Pt) (PA:Option Addr) (pc:Nat) (qs:List ((Int × Int) × Int)) (QA:Option Addr) (qc:Nat) (w:World)
variable (hr:ReqW w hrs HA gs GA ps PA pc qs QA) (hfix:Fixed w) (hg:0<w.heap.size) (hw:MW w)
include hr hfix hg hw
theorem lawHandles21:Calls Tryz.prog 3 #[.agg #[.int .i64 op,.int .i64 vs,.slice HA hrs.length hc,.int .i64 pts,.slice GA gs.length gc,.slice PA ps.length pc,.slice QA qs.length qc]] w fun e w'=>e=.returned (.bool true)∧Below w.heap.size w w':=by
 obtain ⟨rb,hrb⟩:∃ rb,rb=w.heap.size:=⟨_,rfl⟩
 obtain ⟨w0,hw0⟩:∃ w0,w0=w.alloc (.cells #[.int .i64 op,.int .i64 vs,.slice HA hrs.length hc,.int .i64 pts,.slice GA gs.length gc,.slice PA ps.length pc,.slice QA qs.length qc] 28):=⟨_,rfl⟩
 have hb0:Below w.heap.size w w0:=by rw [hw0];exact bA
 have B0:Blk w0 rb 28 #[.int .i64 op,.int .i64 vs,.slice HA hrs.length hc,.int .i64 pts,.slice GA gs.length gc,.slice PA ps.length pc,.slice QA qs.length qc]:=by rw [hw0,hrb];exact Blk.new _ _ _
 have HL:=hide (skip21 op vs pts hrs HA hc gs GA gc ps PA pc qs QA qc w0 (hr.below hb0).hg hr.gn)
 have HAL:=hide (fun (w':World) (hb:Below w.heap.size w w')=>alive21 w' (hfix.below hb hg) (Nat.lt_of_lt_of_le hg hb.size) (hw.step hb))
 have HHA:=hide (fun (w':World) (hb:Below w.heap.size w w') (h250:∀ g∈gs,g.1.n≤250)=>handle_nil op vs pts hc gc qc (hr.below hb) h250 (hw.step hb))
 have HRA:=hide (fun (w':World) (hb:Below w.heap.size w w')=>rhandle op vs pts hrs HA hc gs GA gc ps PA pc qs QA qc w' (hr.below hb))
 have hln:=hhandle_len op vs pts hrs gs ps qs
 obtain ⟨⟨⟨val,cnt,recs⟩,err⟩,hE⟩:∃ E,E=hhandle op vs hrs pts gs ps qs:=⟨_,rfl⟩
 rw [← hE] at HHA HRA hln
 have HLN:=hide hln
 clear hE hln hr hfix hg hw
 go_enter Tryz.func3,Tryz.ntmps3
 go_wp2_with fail
 rw [← hw0,← hrb]
 have HRB:=hide hrb
 clear hw0 hrb
 refine HL.out.mono ?_
 rintro e w1 ⟨z,rfl,hz,hT,hb1⟩
 have HB1:=bl_step hb0 hb1
 have B1:=B0.step hb1
 clear B0 hb0 hb1 HL
 rcases hz with rfl | rfl
 · have hns:=hT rfl
   have A:=HHA.out w1 HB1 hns.1
   have HRL:Hid (recs.length≤maxLen):=hide (by have:=HLN.out;have:=hns.2.2.2.1;unfold maxLen;omega)
   have HA1:=hide A
   have b0:=B1.cell (i:=0) rfl
   have b1:=B1.cell (i:=1) rfl
   have b2:=B1.cell (i:=2) rfl
   have b3:=B1.cell (i:=3) rfl
   have b4:=B1.cell (i:=4) rfl
   have b5:=B1.cell (i:=5) rfl
   have b6:=B1.cell (i:=6) rfl
   clear hT hns A HHA HLN
   go_wp2_with fail
   refine HA1.out.mono ?_
   rintro e w2 ⟨RA,rc,rfl,hb2,hs2⟩
   dsimp only at hs2 ⊢
   have HB2:=bl_step HB1 hb2
   have B2:=B1.step hb2
   clear b0 b1 b2 b3 b4 b5 b6 B1 hb2 HA1
   obtain ⟨w3,hw3⟩:∃ w3,w3=w2.alloc (.cells #[.int .i64 val,.int .i64 cnt,.slice RA recs.length rc] 33):=⟨_,rfl⟩
   obtain ⟨ab,hab⟩:∃ ab,ab=w2.heap.size:=⟨_,rfl⟩
   have hb3:Below w2.heap.size w2 w3:=by rw [hw3];exact bA
   have HB3:Below w.heap.size w w3:=bl_step HB2 hb3
   have A3:Blk w3 ab 33 #[.int .i64 val,.int .i64 cnt,.slice RA recs.length rc]:=by rw [hw3,hab];exact Blk.new _ _ _
   have B3:=B2.step hb3
   have HS3:=hide ((hs2.below hb3).more hb3.size)
   have HAB:=hide hab
   clear hab B2 hs2 hb3
   have b0:w3.cell? ⟨rb,0,none⟩=some (.int .i64 op):=B3.cell (i:=0) rfl
   have b1:w3.cell? ⟨rb,1,none⟩=some (.int .i64 vs):=B3.cell (i:=1) rfl
   have b2:w3.cell? ⟨rb,2,none⟩=some (.slice HA hrs.length hc):=B3.cell (i:=2) rfl
   have b3:w3.cell? ⟨rb,3,none⟩=some (.int .i64 pts):=B3.cell (i:=3) rfl
   have b4:w3.cell? ⟨rb,4,none⟩=some (.slice GA gs.length gc):=B3.cell (i:=4) rfl
   have b5:w3.cell? ⟨rb,5,none⟩=some (.slice PA ps.length pc):=B3.cell (i:=5) rfl
   have b6:w3.cell? ⟨rb,6,none⟩=some (.slice QA qs.length qc):=B3.cell (i:=6) rfl
   have HR:=hide (HRA.out w3 HB3)
   clear HRA B3
   rw [hw3] at b0 b1 b2 b3 b4 b5 b6
   go_wp2_with fail
   rw [← hw3]
   clear hw3 b0 b1 b2 b3 b4 b5 b6
   refine HR.out.mono ?_
   rintro e w4 ⟨SA,sc,rfl,hb4,hs4⟩
   dsimp only at hs4 ⊢
   have HB4:=bl_step HB3 hb4
   have A4:=A3.step hb4
   have HS4:=hide ((HS3.out.below hb4).more hb4.size)
   clear hb4 A3 HR HS3
   obtain ⟨w5,hw5⟩:∃ w5,w5=w4.alloc (.cells #[.int .i64 val,.int .i64 cnt,.slice SA recs.length sc] 38):=⟨_,rfl⟩
   obtain ⟨cb,hcb⟩:∃ cb,cb=w4.heap.size:=⟨_,rfl⟩
   have hb5:Below w4.heap.size w4 w5:=by rw [hw5];exact bA
   have HB5:Below w.heap.size w w5:=bl_step HB4 hb5
   have C5:Blk w5 cb 38 #[.int .i64 val,.int .i64 cnt,.slice SA recs.length sc]:=by rw [hw5,hcb];exact Blk.new _ _ _
   have A5:=A4.step hb5
   have HS5:=hide (And.intro ((HS4.out.below hb5).more hb5.size) ((hs4.below hb5).more hb5.size))
   have HCB:=hide hcb
   clear hcb A4 hs4 hb5 HS4
   go_wp2_with fail
   rw [← hw5]
   clear hw5
   refine (HAL.out w5 HB5).mono ?_
   rintro e w6 ⟨rfl,hb6⟩
   have A6:=A5.step hb6
   have C6:=C5.step hb6
   have a0:w6.cell? ⟨ab,0,none⟩=some (.int .i64 val):=A6.cell (i:=0) rfl
   have a1:w6.cell? ⟨ab,1,none⟩=some (.int .i64 cnt):=A6.cell (i:=1) rfl
   have a2:w6.cell? ⟨ab,2,none⟩=some (.slice RA recs.length rc):=A6.cell (i:=2) rfl
   have c0:w6.cell? ⟨cb,0,none⟩=some (.int .i64 val):=C6.cell (i:=0) rfl
   have c1:w6.cell? ⟨cb,1,none⟩=some (.int .i64 cnt):=C6.cell (i:=1) rfl
   have c2:w6.cell? ⟨cb,2,none⟩=some (.slice SA recs.length sc):=C6.cell (i:=2) rfl
   have HSM:=hide (same13_true recs RA SA rc sc w6 ((HS5.out.1.below hb6).more hb6.size) ((HS5.out.2.below hb6).more hb6.size) HRL.out)
   have HB6:=bl_step HB5 hb6
   rw [HAB.out] at a0 a1 a2
   rw [HCB.out] at c0 c1 c2
   clear A5 C5 A6 C6 hb6 HS5 HAL
   go_wp2_with fail
   refine HSM.out.mono ?_
   rintro e w7 ⟨rfl,hb7⟩
   clear a0 a1 a2 c0 c1 c2
   go_wp2
   go_ret
   exact ⟨rfl,bl_step HB6 hb7⟩
 · clear HHA HRA
   go_wp2_with fail
   refine (HAL.out w1 HB1).mono ?_
   rintro e w2 ⟨rfl,hb2⟩
   go_wp2
   go_ret
   exact ⟨rfl,bl_step HB1 hb2⟩
end
end
end Go.Proofs.YtpnoofphfomjoaaGreatDoor
