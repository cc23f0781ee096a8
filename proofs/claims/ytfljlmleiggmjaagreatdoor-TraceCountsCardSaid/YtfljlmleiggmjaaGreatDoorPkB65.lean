/- LawTrace2 -/
import Derived.Deep.AppendLies
import Derived.Deep.RegionHeld
import Derived.Deep.RegionHeld3
import Derived.Deep.RegionLaw
import Derived.Laws.Externs
import Derived.OrdersHeld
import Derived.OrdersIn
import Derived.OwnWalkIn
import Derived.Shelf.Bits.Mul64
import Derived.Shelf.Spec.BitsCarry
import Derived.Test.YtfljlmleiggmjaaGreatDoorPkB47
import Derived.Test.YtfljlmleiggmjaaGreatDoorPkB53
set_option maxRecDepth 1000000
set_option maxHeartbeats 8000000
namespace Go.Proofs.YtfljlmleiggmjaaGreatDoor
section
open Go.RowKit Go.Shelf
theorem ck_pts (rs:List Rg) {n:Int} (h1:1≤n) (h2:n≤4096):hcheck 5 0 rs n=hcheck 5 0 rs 1:=by
 have a:¬ (n<1∨4096<n):=by omega
 unfold hcheck hcheckB
 simp [a]
theorem tr_counts {rs:List Rg} (h:hcheck 5 0 rs 1=0):((trEv 5 0 rs 4).length:Int) - (trEv 5 0 rs 2).length - 5=2*(((trEv 5 0 rs 2).length:Int) - (trEv 5 0 rs 1).length - 1):=by
 have e:∀ n:Nat,1≤n→n≤4096→trEv 5 0 rs (n:Int)=evB rs n:=fun n h1 h2=>by
  unfold trEv
  rw [if_pos (by rw [ck_pts rs (by omega) (by omega)];exact h)]
  rfl
 have e1:=e 1 (by decide) (by decide)
 have e2:=e 2 (by decide) (by decide)
 have e4:=e 4 (by decide) (by decide)
 have g1:((1:Nat):Int)=1:=rfl
 have g2:((2:Nat):Int)=2:=rfl
 have g4:((4:Nat):Int)=4:=rfl
 rw [g1] at e1
 rw [g2] at e2
 rw [g4] at e4
 rw [e1,e2,e4]
 exact evB_counts rs
section
variable (op vs pts:Int) (rs:List Rg) (HA:Option Addr) (hc:Nat) (w:World)
variable (hh:Sl w w.heap.size HA (rgCells rs)) (hn:rs.length≤maxLen) (hfix:Fixed w) (hg:1<w.heap.size) (hp:PT w)
include hh hn hfix hg hp
theorem lawCounts22:Calls Tryz.prog 6 #[.agg #[.int .i64 op,.int .i64 vs,.slice HA rs.length hc,.int .i64 pts]] w fun e w'=>e=.returned (.bool true)∧Below w.heap.size w w':=by
 obtain ⟨hb,hhb⟩:∃ hb,hb=w.heap.size:=⟨_,rfl⟩
 obtain ⟨w0,hw0⟩:∃ w0,w0=w.alloc (.cells #[.int .i64 5,.int .i64 0,.slice HA rs.length hc,.int .i64 1] 24):=⟨_,rfl⟩
 have N0:Blk w0 hb 24 #[.int .i64 5,.int .i64 0,.slice HA rs.length hc,.int .i64 1]:=by rw [hw0,hhb];exact Blk.new _ _ _
 have hsetB:∀ (W:World) (o:Nat) (v:Value),Below w.heap.size w W→Below w.heap.size w (W.setCell ⟨hb,o,none⟩ v):=fun W o v h=>⟨h.os,h.tape,h.output,Nat.le_trans h.size (Nat.le_of_eq (World.size_setCell ..).symm),fun k hk=>(Below.heap_setCell W ⟨hb,o,none⟩ v k (fun e=>by have e:k=hb:=e;omega)).trans (h.block k hk)⟩
 have hb0:Below w.heap.size w w0:=by rw [hw0];exact bA
 have HSET:=hide hsetB
 have HAL:=hide (fun (w':World) (hb:Below w.heap.size w w')=>alive22 w' (hfix.below hb hg) (Nat.lt_of_lt_of_le hg hb.size) (hp.step hb))
 have HLG:=hide (large22 5 0 1 rs HA hc w0 ((hh.below hb0).more hb0.size))
 have HFM:=hide (fun (w':World) (hb:Below w.heap.size w w')=>rformat_any 5 0 1 rs HA hc w' ((hh.below hb).more hb.size))
 have HCT:=hide (fun (n:Int) (h1:1≤n) (h4:n≤4) (w':World) (hb:Below w.heap.size w w')=>by
  have h:=tCount_any 5 0 n rs HA hc w' ((hh.below hb).more hb.size) hn (Nat.le_trans (trEv_len fun _=>by omega) (by decide))
  rw [ck_pts rs h1 (by omega)] at h
  exact h)
 have HLE:=hide (fun (n:Int) (h4:n≤4)=>trEv_len (op:=5) (vs:=0) (rs:=rs) (pts:=n) fun _=>by omega)
 have HHB:=hide hhb
 have b0:=N0.cell (i:=0) rfl
 have b1:=N0.cell (i:=1) rfl
 have b2:=N0.cell (i:=2) rfl
 have b3:=N0.cell (i:=3) rfl
 by_cases hz:hcheck 5 0 rs 1=0
 · have hf:(hformat 5 0 rs 1).2=0:=by unfold hformat;rw [if_pos hz]
   have HCN:=hide (tr_counts hz)
   rw [hz] at HCT
   obtain ⟨l1,hl1⟩:∃ l1:Int,l1=((trEv 5 0 rs 1).length:Int):=⟨_,rfl⟩
   obtain ⟨l2,hl2⟩:∃ l2:Int,l2=((trEv 5 0 rs 2).length:Int):=⟨_,rfl⟩
   obtain ⟨l4,hl4⟩:∃ l4:Int,l4=((trEv 5 0 rs 4).length:Int):=⟨_,rfl⟩
   have q1:0≤l1∧l1≤1000000:=by rw [hl1];have:=HLE.out 1 (by decide);omega
   have q2:0≤l2∧l2≤1000000:=by rw [hl2];have:=HLE.out 2 (by decide);omega
   have q4:0≤l4∧l4≤1000000:=by rw [hl4];have:=HLE.out 4 (by decide);omega
   have C1:=hide (HCT.out 1 (by decide) (by decide))
   have C2:=hide (HCT.out 2 (by decide) (by decide))
   have C4:=hide (HCT.out 4 (by decide) (by decide))
   rw [← hl1] at C1
   rw [← hl2] at C2
   rw [← hl4] at C4
   rw [← hl1,← hl2,← hl4] at HCN
   have hcn:l4 - l2 - 5=2*(l2 - l1 - 1):=HCN.out
   have v1:IntKind.i64.wrap (l4 - l2)=l4 - l2:=by rw [IntKind.wrap_i64];omega
   have v2:IntKind.i64.wrap (l4 - l2 - 5)=l4 - l2 - 5:=by rw [IntKind.wrap_i64];omega
   have v3:IntKind.i64.wrap (l2 - l1)=l2 - l1:=by rw [IntKind.wrap_i64];omega
   have v4:IntKind.i64.wrap (l2 - l1 - 1)=l2 - l1 - 1:=by rw [IntKind.wrap_i64];omega
   have v5:IntKind.i64.wrap (2*(l2 - l1 - 1))=2*(l2 - l1 - 1):=by rw [IntKind.wrap_i64];omega
   have HV:=hide (And.intro v1 (And.intro v2 (And.intro v3 (And.intro v4 (And.intro v5 hcn)))))
   clear hh hn hfix hg hp hz HCT HLE HCN hl1 hl2 hl4 q1 q2 q4 v1 v2 v3 v4 v5 hcn hsetB
   rw [hw0] at b0 b1 b2 b3 HLG
   go_enter Tryz.func6,Tryz.ntmps6
   rw [hhb] at b0 b1 b2 b3
   go_wp2_with fail
   refine HLG.out.mono ?_
   rw [← hw0,← hhb]
   rintro e w1 ⟨z,rfl,-,hb1⟩
   have HB1:=hide (bl_step hb0 hb1)
   have N1:=N0.step hb1
   clear b0 b1 b2 b3 hb0 N0 hb1 HLG hw0 hhb
   cases z with
   | true =>
     clear N1
     go_wp2_with fail
     refine (HAL.out w1 HB1.out).mono ?_
     rintro e w2 ⟨rfl,hb2⟩
     have HB:=hide (bl_step HB1.out hb2)
     clear hb2
     go_wp2
     go_ret
     exact ⟨rfl,HB.out⟩
   | false =>
     have b0:=N1.cell (i:=0) rfl
     have b1:=N1.cell (i:=1) rfl
     have b2:=N1.cell (i:=2) rfl
     have b3:=N1.cell (i:=3) rfl
     go_wp2_with fail
     refine (HFM.out w1 HB1.out).mono ?_
     rintro e w2 ⟨fv,rfl,-,hb2⟩
     rw [hf]
     have HB2:=hide (bl_step HB1.out hb2)
     have N2:=N1.step hb2
     clear b0 b1 b2 b3 N1 hb2 HFM hf
     have b0:=N2.cell (i:=0) rfl
     have b1:=N2.cell (i:=1) rfl
     have b2:=N2.cell (i:=2) rfl
     have b3:=N2.cell (i:=3) rfl
     go_wp2_with fail
     refine (C1.out w2 HB2.out).mono ?_
     rintro e w3 ⟨rfl,hb3⟩
     have HB3:=hide (bl_step HB2.out hb3)
     have N3:=N2.step hb3
     clear b0 b1 b2 b3 N2 hb3
     obtain ⟨w4,hw4⟩:∃ w4,w4=w3.setCell ⟨hb,3,none⟩ (.int .i64 2):=⟨_,rfl⟩
     have HB4:=hide (HSET.out _ 3 (.int .i64 2) HB3.out)
     have N4:=N3.set 3 (.int .i64 2)
     have d3:=N3.cell (i:=3) rfl
     have g3:=N3.frozen 3
     rw [← hw4] at HB4 N4
     have b0:=N4.cell (i:=0) rfl
     have b1:=N4.cell (i:=1) rfl
     have b2:=N4.cell (i:=2) rfl
     have b3:=N4.cell (i:=3) rfl
     rw [hw4] at b0 b1 b2 b3
     have K4:=hide (C2.out w4 HB4.out)
     rw [hw4] at K4
     go_wp2_with fail
     refine K4.out.mono ?_
     rw [← hw4]
     rintro e w5 ⟨rfl,hb5⟩
     have HB5:=hide (bl_step HB4.out hb5)
     have N5:=N4.step hb5
     clear b0 b1 b2 b3 d3 g3 N3 N4 hb5 hw4 K4
     obtain ⟨w6,hw6⟩:∃ w6,w6=w5.setCell ⟨hb,3,none⟩ (.int .i64 4):=⟨_,rfl⟩
     have HB6:=hide (HSET.out _ 3 (.int .i64 4) HB5.out)
     have N6:=N5.set 3 (.int .i64 4)
     have d3:=N5.cell (i:=3) rfl
     have g3:=N5.frozen 3
     rw [← hw6] at HB6 N6
     have b0:=N6.cell (i:=0) rfl
     have b1:=N6.cell (i:=1) rfl
     have b2:=N6.cell (i:=2) rfl
     have b3:=N6.cell (i:=3) rfl
     rw [hw6] at b0 b1 b2 b3
     have K6:=hide (C4.out w6 HB6.out)
     rw [hw6] at K6
     go_wp2_with fail
     refine K6.out.mono ?_
     rw [← hw6]
     rintro e w7 ⟨rfl,hb7⟩
     have HB7:=hide (bl_step HB6.out hb7)
     clear b0 b1 b2 b3 d3 g3 N5 N6 hb7 hw6 K6
     go_wp2_with fail
     refine (HAL.out w7 HB7.out).mono ?_
     rintro e w8 ⟨rfl,hb8⟩
     have HB8:=hide (bl_step HB7.out hb8)
     clear hb8
     obtain ⟨v1,v2,v3,v4,v5,hcn⟩:=HV.out
     go_wp2
     go_ret
     refine ⟨?_,HB8.out⟩
     simp
 · have hf:(hformat 5 0 rs 1).2=hcheck 5 0 rs 1:=by unfold hformat;rw [if_neg hz]
   obtain ⟨er,her⟩:∃ er,er=hcheck 5 0 rs 1:=⟨_,rfl⟩
   rw [← her] at hz hf
   have hne:(er != 0)=true:=by simpa using hz
   clear hh hn hfix hg hp hz HCT HLE hsetB her
   rw [hw0] at b0 b1 b2 b3 HLG
   go_enter Tryz.func6,Tryz.ntmps6
   rw [hhb] at b0 b1 b2 b3
   go_wp2_with fail
   refine HLG.out.mono ?_
   rw [← hw0,← hhb]
   rintro e w1 ⟨z,rfl,-,hb1⟩
   have HB1:=hide (bl_step hb0 hb1)
   have N1:=N0.step hb1
   clear b0 b1 b2 b3 hb0 N0 hb1 HLG hw0 hhb
   cases z with
   | true =>
     clear N1
     go_wp2_with fail
     refine (HAL.out w1 HB1.out).mono ?_
     rintro e w2 ⟨rfl,hb2⟩
     have HB:=hide (bl_step HB1.out hb2)
     clear hb2
     go_wp2
     go_ret
     exact ⟨rfl,HB.out⟩
   | false =>
     have b0:=N1.cell (i:=0) rfl
     have b1:=N1.cell (i:=1) rfl
     have b2:=N1.cell (i:=2) rfl
     have b3:=N1.cell (i:=3) rfl
     go_wp2_with fail
     refine (HFM.out w1 HB1.out).mono ?_
     rintro e w2 ⟨fv,rfl,-,hb2⟩
     rw [hf]
     have HB2:=hide (bl_step HB1.out hb2)
     have N2:=N1.step hb2
     clear b0 b1 b2 b3 N1 hb2 HFM hf
     go_wp2_with fail
     refine (HAL.out w2 HB2.out).mono ?_
     rintro e w3 ⟨rfl,hb3⟩
     have HB:=hide (bl_step HB2.out hb3)
     clear hb3
     go_wp2
     go_ret
     exact ⟨rfl,HB.out⟩
end
end
end Go.Proofs.YtfljlmleiggmjaaGreatDoor
