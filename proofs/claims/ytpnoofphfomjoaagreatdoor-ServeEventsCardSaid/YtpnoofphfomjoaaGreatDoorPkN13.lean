/- LawEvents21 -/
import Derived.Test.YtpnoofphfomjoaaGreatDoorPkM41
import Derived.Test.YtpnoofphfomjoaaGreatDoorPkM42
import Derived.Test.YtpnoofphfomjoaaGreatDoorPkN12
set_option maxRecDepth 1000000
set_option maxHeartbeats 8000000
namespace Go.Proofs.YtpnoofphfomjoaaGreatDoor
section
open Go.RowKit Go.Shelf
theorem lg_100e {n:Nat} (h:n≤100):4161*n+(netw (lg n)).length≤600000:=by
 have:=netw_100 h
 omega
section
variable (bs:List Int) (A:Option Addr) (c:Nat) (w:World)
variable (hs:Sl w w.heap.size A (byCells bs)) (hcap:bs.length≤c) (hby:By bs) (hfix:Fixed w) (hg:0<w.heap.size) (hw:MW w)
include hs hcap hby hfix hg hw
theorem lawEvents21:Calls Tryz.prog 6 #[.slice A bs.length c] w fun e w'=>e=.returned (.bool true)∧Below w.heap.size w w':=by
 have HK:=hide (skipB21 bs A c w hs hby)
 have HAL:=hide (fun (w':World) (hb:Below w.heap.size w w')=>alive21 w' (hfix.below hb hg) (Nat.lt_of_lt_of_le hg hb.size) (hw.step hb))
 have HTR:=hide (fun (w':World) (hb:Below w.heap.size w w') (hmax:bs.length≤300000) (t:Option (Nat × Nat)) (hf:FreshT w' t) (hl:4161*(hdecode bs).1.qs.length+(netw (lg (hdecode bs).1.qs.length)).length≤600000)=>traced_any t bs A c w' ((hs.below hb).more hb.size) hcap hby hmax (hfix.below hb hg) (Nat.lt_of_lt_of_le hg hb.size) (hw.step hb) hf (.inr hl))
 have HRO:=hide (fun (w':World) (hb:Below w.heap.size w w') (h100:(hdecode bs).1.qs.length≤100)=>revOf bs A c w' ((hs.below hb).more hb.size) hby h100)
 have HEL:=hide (fun (h100:(hdecode bs).1.qs.length≤100)=>serveEv_len bs hby h100)
 obtain ⟨es,hes⟩:∃ es,es=serveEv bs:=⟨_,rfl⟩
 have HSB:Hid (∀ t w' e w2,Served t bs w' e w2→∃ v,e=.returned v∧KeepP (NT t w'.heap.size) w' w2∧Tp w2 (NT t w'.heap.size) t es):=hide fun t w' e w2 h=>by
  obtain ⟨A,c,he,_,hk,ht,_⟩:=h
  rw [hes]
  exact ⟨_,he,hk,ht⟩
 rw [← hes] at HRO HEL
 clear hs hcap hby hfix hg hw hes
 go_enter Tryz.func6,Tryz.ntmps6
 go_wp2_with fail
 refine HK.out.mono ?_
 rintro e w1 ⟨z,rfl,hz,hT,HB1⟩
 rcases hz with rfl | rfl
 · obtain ⟨h6,hq100⟩:=hT rfl
   have HQ:=hide (lg_100e hq100)
   have H6:Hid (bs.length≤300000):=hide (by omega)
   have HL:=hide (HEL.out hq100)
   have HRO1:=hide (fun (w':World) (hb:Below w.heap.size w w')=>HRO.out w' hb hq100)
   clear hT h6 hq100 HEL HRO HK
   go_wp2_with fail
   refine (new_fresh w1).mono ?_
   rintro e w2 ⟨rfl,hb2,hf2⟩
   have HB2:=bl_step HB1 hb2
   have HNT:Hid (∀ k,k<w.heap.size→NT (newT w1) w2.heap.size k):=hide fun k hk=>by
    refine ⟨Nat.lt_of_lt_of_le hk HB2.size,fun u hu=>?_⟩
    unfold newT at hu
    injection hu with hu
    subst hu
    have:=HB1.size
    dsimp only
    omega
   have T2:=hide (HTR.out w2 HB2 H6.out (newT w1) hf2 HQ.out)
   clear hb2 hf2 HTR HQ
   go_wp2_with fail
   refine T2.out.mono ?_
   intro e w3 hT3
   obtain ⟨tv,rfl,hk3,ht3⟩:=HSB.out _ _ _ _ hT3
   have HB3:Below w.heap.size w w3:=⟨hk3.os.trans HB2.os,hk3.tape.trans HB2.tape,hk3.output.trans HB2.output,Nat.le_trans HB2.size hk3.size,fun k hk=>(hk3.block k (HNT.out k hk)).trans (HB2.block k hk)⟩
   have HT3:=hide ht3
   clear hT3 hk3 ht3 T2 HNT HSB
   go_wp2_with fail
   refine (HAL.out w3 HB3).mono ?_
   rintro e w4 ⟨rfl,hb4⟩
   have HB4:=bl_step HB3 hb4
   have E4:=hide (events_any _ _ _ es w4 (HT3.out.step hb4) HL.out)
   clear hb4 HT3 HAL
   go_wp2_with fail
   refine E4.out.mono ?_
   rintro e w5 ⟨A5,c5,rfl,hs5,hb5⟩
   have HB5:=bl_step HB4 hb5
   have HS5:=hide hs5
   clear hs5 hb5 E4
   go_wp2_with fail
   refine (HRO1.out w5 HB5).mono ?_
   rintro e w6 ⟨A6,c6,rfl,hs6,hb6⟩
   have HB6:=bl_step HB5 hb6
   have S6:=hide (same_events es A5 A6 c5 c6 w6 ((HS5.out.below hb6).more hb6.size) hs6 (by have:=HL.out;unfold maxLen;omega))
   clear hs6 hb6 HS5 HRO1
   go_wp2_with fail
   refine S6.out.mono ?_
   rintro e w7 ⟨rfl,hb7⟩
   go_wp2
   go_ret
   exact ⟨rfl,bl_step HB6 hb7⟩
 · clear HTR HRO
   go_wp2_with fail
   refine (HAL.out w1 HB1).mono ?_
   rintro e w5 ⟨rfl,hb5⟩
   go_wp2
   go_ret
   exact ⟨rfl,bl_step HB1 hb5⟩
end
end
end Go.Proofs.YtpnoofphfomjoaaGreatDoor
