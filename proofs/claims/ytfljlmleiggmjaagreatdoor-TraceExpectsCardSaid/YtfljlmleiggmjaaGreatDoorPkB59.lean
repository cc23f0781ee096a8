/- Large22 LawTrace1 -/
import Derived.Deep.AppendLies
import Derived.Deep.RegionHeld3
import Derived.Deep.RegionLaw
import Derived.Laws.BytesArg
import Derived.Laws.Externs
import Derived.Shelf.Bits.Mul64
import Derived.Shelf.Spec.BitsCarry
import Derived.Test.YtfljlmleiggmjaaGreatDoorPkB51
import Derived.Test.YtfljlmleiggmjaaGreatDoorPkB53
import Derived.Test.YtfljlmleiggmjaaGreatDoorPkB57
set_option maxRecDepth 1000000
set_option maxHeartbeats 8000000
namespace Go.Proofs.YtfljlmleiggmjaaGreatDoor
section
open Go.RowKit Go.Shelf
section
variable (op vs pts:Int) (rs:List Rg) (HA:Option Addr) (hc:Nat) (w:World) (hs:Sl w w.heap.size HA (rgCells rs))
include hs
theorem rExpected_any (hp:op=5→pts≤100):Calls Tryz.prog 13 #[.agg #[.int .i64 op,.int .i64 vs,.slice HA rs.length hc,.int .i64 pts]] w fun e w' =>
 ∃ A c,e=.returned (.tuple #[.slice A (trEv op vs rs pts).length c,.int .i64 (hcheck op vs rs pts)])∧Sl w' w'.heap.size A (evCs (trEv op vs rs pts))∧Below w.heap.size w w':=by
 obtain ⟨w0,hw0⟩:∃ w0,w0=w.alloc (.cells #[.int .i64 op,.int .i64 vs,.slice HA rs.length hc,.int .i64 pts] 24):=⟨_,rfl⟩
 have hb0:Below w.heap.size w w0:=by rw [hw0];exact bA
 have N0:Blk w0 w.heap.size 24 #[.int .i64 op,.int .i64 vs,.slice HA rs.length hc,.int .i64 pts]:=by rw [hw0];exact Blk.new _ _ _
 have HFM:=hide (rformat_any op vs pts rs HA hc w0 ((hs.below hb0).more hb0.size))
 have b0:=N0.cell (i:=0) rfl
 have b1:=N0.cell (i:=1) rfl
 have b2:=N0.cell (i:=2) rfl
 have b3:=N0.cell (i:=3) rfl
 by_cases hz:hcheck op vs rs pts=0
 · have ht:trEv op vs rs pts=evH21 op vs rs pts:=if_pos hz
   rw [ht]
   have hf:(hformat op vs rs pts).2=0:=by unfold hformat;rw [if_pos hz]
   have HX:=hide (fun (w':World) (hb:Below w.heap.size w w')=>rev21 op vs pts rs HA hc w' ((hs.below hb).more hb.size) hz hp)
   obtain ⟨ev,hev⟩:∃ ev,ev=evH21 op vs rs pts:=⟨_,rfl⟩
   rw [← hev] at HX ⊢
   rw [hz]
   clear hs hz ht hev hp
   rw [hw0] at b0 b1 b2 b3 HFM
   go_enter Tryz.func13,Tryz.ntmps13
   go_wp2_with fail
   refine HFM.out.mono ?_
   rw [← hw0]
   rintro e w1 ⟨fv,rfl,-,hb1⟩
   rw [hf]
   have HB1:=hide (bl_step hb0 hb1)
   have N1:=N0.step hb1
   clear b0 b1 b2 b3 N0 hb0 hb1 HFM hw0 hf
   have b0:=N1.cell (i:=0) rfl
   have b1:=N1.cell (i:=1) rfl
   have b2:=N1.cell (i:=2) rfl
   have b3:=N1.cell (i:=3) rfl
   clear N1
   go_wp2_with fail
   refine (HX.out w1 HB1.out).mono ?_
   rintro e w2 ⟨A,c,rfl,hsl,hb2⟩
   have HSL:=hide hsl
   have HB2:=hide (bl_step HB1.out hb2)
   clear hb2 hsl b0 b1 b2 b3
   go_wp2
   go_ret2
   exact ⟨A,c,rfl,HSL.out,HB2.out⟩
 · have ht:trEv op vs rs pts=[]:=if_neg hz
   rw [ht]
   have hf:(hformat op vs rs pts).2=hcheck op vs rs pts:=by unfold hformat;rw [if_neg hz]
   obtain ⟨er,her⟩:∃ er,er=hcheck op vs rs pts:=⟨_,rfl⟩
   rw [← her] at hz hf ⊢
   have hne:(er != 0)=true:=by simpa using hz
   clear hs hz ht her hp
   rw [hw0] at b0 b1 b2 b3 HFM
   go_enter Tryz.func13,Tryz.ntmps13
   go_wp2_with fail
   refine HFM.out.mono ?_
   rw [← hw0]
   rintro e w1 ⟨fv,rfl,-,hb1⟩
   rw [hf]
   have HB1:=hide (bl_step hb0 hb1)
   clear b0 b1 b2 b3 N0 hb0 hb1 HFM hw0 hf
   go_wp2
   go_ret2
   exact ⟨none,0,rfl,Sl.nil _ _ _,HB1.out⟩
end
end
section
open Go.RowKit Go.Shelf
section
variable (es:List Ev) (A:Option Addr) (c:Nat) (w:World)
variable (hs:Sl w w.heap.size A (evCs es)) (hj:∀ e∈es,EvJ e) (hfix:Fixed w) (hg:1<w.heap.size) (hp:PT w)
include hs hj hfix hg hp
end
section
variable (op vs pts:Int) (rs:List Rg) (HA:Option Addr) (hc:Nat) (w:World)
variable (hh:Sl w w.heap.size HA (rgCells rs)) (hn:rs.length≤maxLen) (hfix:Fixed w) (hg:1<w.heap.size) (hp:PT w)
include hh hn hfix hg hp
theorem lawExpects22:Calls Tryz.prog 3 #[.agg #[.int .i64 op,.int .i64 vs,.slice HA rs.length hc,.int .i64 pts]] w fun e w'=>e=.returned (.bool true)∧Below w.heap.size w w':=by
 obtain ⟨hb,hhb⟩:∃ hb,hb=w.heap.size:=⟨_,rfl⟩
 obtain ⟨w0,hw0⟩:∃ w0,w0=w.alloc (.cells #[.int .i64 op,.int .i64 vs,.slice HA rs.length hc,.int .i64 pts] 24):=⟨_,rfl⟩
 have hb0:Below w.heap.size w w0:=by rw [hw0];exact bA
 have N0:Blk w0 hb 24 #[.int .i64 op,.int .i64 vs,.slice HA rs.length hc,.int .i64 pts]:=by rw [hw0,hhb];exact Blk.new _ _ _
 have HAL:=hide (fun (w':World) (hb:Below w.heap.size w w')=>alive22 w' (hfix.below hb hg) (Nat.lt_of_lt_of_le hg hb.size) (hp.step hb))
 have HLG:=hide (large22 op vs pts rs HA hc w0 ((hh.below hb0).more hb0.size))
 have HEX:=hide (fun (h100:pts≤100) (w':World) (hb:Below w.heap.size w w')=>tExpected_any op vs pts rs HA hc w' ((hh.below hb).more hb.size) hn (Nat.le_trans (trEv_len fun _=>h100) (by decide)))
 have HCT:=hide (fun (h100:pts≤100) (w':World) (hb:Below w.heap.size w w')=>tCount_any op vs pts rs HA hc w' ((hh.below hb).more hb.size) hn (Nat.le_trans (trEv_len fun _=>h100) (by decide)))
 have HRX:=hide (fun (h100:pts≤100) (w':World) (hb:Below w.heap.size w w')=>rExpected_any op vs pts rs HA hc w' ((hh.below hb).more hb.size) fun _=>h100)
 have HLE:=hide (fun (h100:pts≤100)=>trEv_len (op:=op) (vs:=vs) (rs:=rs) (pts:=pts) fun _=>h100)
 obtain ⟨ev,hev⟩:∃ ev,ev=trEv op vs rs pts:=⟨_,rfl⟩
 obtain ⟨er,her⟩:∃ er,er=hcheck op vs rs pts:=⟨_,rfl⟩
 rw [← hev] at HEX HCT HRX HLE
 rw [← her] at HEX HCT HRX
 have b0:=N0.cell (i:=0) rfl
 have b1:=N0.cell (i:=1) rfl
 have b2:=N0.cell (i:=2) rfl
 have b3:=N0.cell (i:=3) rfl
 have HHB:=hide hhb
 clear hh hn hfix hg hp hev her
 rw [hw0] at b0 b1 b2 b3 HLG
 go_enter Tryz.func3,Tryz.ntmps3
 rw [hhb] at b0 b1 b2 b3
 go_wp2_with fail
 refine HLG.out.mono ?_
 rw [← hw0,← hhb]
 rintro e w1 ⟨z,rfl,hz,hb1⟩
 have HB1:=hide (bl_step hb0 hb1)
 have N1:=N0.step hb1
 clear b0 b1 b2 b3 hb0 N0 hb1 HLG hw0 hhb
 cases z with
 | true =>
   clear N1
   go_wp2_with fail
   refine (HAL.out w1 HB1.out).mono ?_
   rintro e w2 ⟨rfl,hb2⟩
   have HB:=hide (bl_step HB1.out hb2)
   clear hb2
   go_wp2
   go_ret
   exact ⟨rfl,HB.out⟩
 | false =>
   have H100:=hide (hz rfl)
   have b0:=N1.cell (i:=0) rfl
   have b1:=N1.cell (i:=1) rfl
   have b2:=N1.cell (i:=2) rfl
   have b3:=N1.cell (i:=3) rfl
   clear hz
   go_wp2_with fail
   refine (HEX.out H100.out w1 HB1.out).mono ?_
   rintro e w2 ⟨v,rfl,hown,hb2⟩
   obtain ⟨A2,c2,rfl,_⟩:=own_slice hown
   have HB2:=hide (bl_step HB1.out hb2)
   have N2:=N1.step hb2
   have S2:=hide (Sl.of_own hown)
   clear b0 b1 b2 b3 N1 hb2 hown
   have b0:=N2.cell (i:=0) rfl
   have b1:=N2.cell (i:=1) rfl
   have b2:=N2.cell (i:=2) rfl
   have b3:=N2.cell (i:=3) rfl
   go_wp2_with fail
   refine (HRX.out H100.out w2 HB2.out).mono ?_
   rintro e w3 ⟨A3,c3,rfl,hs3,hb3⟩
   have HB3:=hide (bl_step HB2.out hb3)
   have N3:=N2.step hb3
   have S3:=hide hs3
   have S23:=hide ((S2.out.below hb3).more hb3.size)
   clear b0 b1 b2 b3 N2 hb3 hs3 S2
   have b0:=N3.cell (i:=0) rfl
   have b1:=N3.cell (i:=1) rfl
   have b2:=N3.cell (i:=2) rfl
   have b3:=N3.cell (i:=3) rfl
   go_wp2_with fail
   refine (HCT.out H100.out w3 HB3.out).mono ?_
   rintro e w4 ⟨rfl,hb4⟩
   have HB4:=hide (bl_step HB3.out hb4)
   have S34:=hide ((S3.out.below hb4).more hb4.size)
   have S24:=hide ((S23.out.below hb4).more hb4.size)
   clear b0 b1 b2 b3 N3 hb4 S3 S23
   go_wp2_with fail
   refine (HAL.out w4 HB4.out).mono ?_
   rintro e w5 ⟨rfl,hb5⟩
   have HB5:=hide (bl_step HB4.out hb5)
   have M5:=hide (same_events ev A2 A3 c2 c3 w5 ((S24.out.below hb5).more hb5.size) ((S34.out.below hb5).more hb5.size) (by have:=HLE.out H100.out;unfold maxLen;omega))
   clear hb5 S34 S24
   go_wp2_with fail
   refine M5.out.mono ?_
   rintro e w6 ⟨rfl,hb6⟩
   have HB6:=hide (bl_step HB5.out hb6)
   clear hb6
   go_wp2
   go_ret
   exact ⟨by simp,HB6.out⟩
end
end
end Go.Proofs.YtfljlmleiggmjaaGreatDoor
