/- ServeFacts LawClassifies21 -/
import Derived.BigQuiet
import Derived.Deep.QuietTactic
import Derived.Deep.RegionHeld3
import Derived.Lib.SliceRun
import Derived.Test.YtpnoofphfomjoaaGreatDoorPkM13
import Derived.Test.YtpnoofphfomjoaaGreatDoorPkM41
import Derived.Test.YtpnoofphfomjoaaGreatDoorPkM42
set_option maxRecDepth 1000000
set_option maxHeartbeats 8000000
namespace Go.Proofs.YtpnoofphfomjoaaGreatDoor
section
open Go.RowKit Go.Shelf
theorem qAns_u64 {q:Rq} (h:∀ x∈q.qs,U64 x.2):∀ r∈(qAns q).recs,U64 r.2:=by
 intro r hr
 unfold qAns at hr
 split at hr
 · unfold hbatch at hr
   split at hr
   · simp [ansZero] at hr
   · dsimp only at hr
     have:=hrecs_cln (q.gs.map cg) h r ((isort_perm rkey _).mem_iff.1 hr)
     rcases this with ⟨_,h1,h2⟩ | h1
     · exact ⟨h1,h2⟩
     · rw [h1];exact ⟨by decide,by decide⟩
 · simp at hr
theorem serve_ok {bs:List Int} (hby:By bs) (hc:hclass bs=0) :
 ∃ val cnt recs t,hserve bs=0::val::t∧0≤val∧val≤3∧hread (hparse bs).1.op (hparse bs).1.vs (hparse bs).1.rs (hparse bs).1.pts (hserve bs)=(⟨val,cnt,recs⟩,0)∧((hserve bs).length:Int)=hresp (hparse bs).1.op (hparse bs).1.vs (hparse bs).1.rs (hparse bs).1.pts∧hcheck (hparse bs).1.op (hparse bs).1.vs (hparse bs).1.rs (hparse bs).1.pts=0∧(hserve bs).length≤100000∧By (hserve bs)∧(hparse bs).1.rs.length≤maxLen:=by
 have hd:hdecode bs=(rqOf (hparse bs).1 (bs.drop (hparse bs).2.1.toNat),0):=by unfold hdecode;rw [if_pos hc]
 obtain ⟨q,hq⟩:∃ q,q=rqOf (hparse bs).1 (bs.drop (hparse bs).2.1.toNat):=⟨_,rfl⟩
 have hh:q.h=(hparse bs).1:=by rw [hq];rfl
 rw [← hq] at hd
 rw [← hh]
 obtain ⟨_,dj2,_,z⟩:=dec_small hby hd
 have hn:∀ g∈q.gs.map cg,g.1.n=g.2.length:=fun g hg=>by
  obtain ⟨x,_,rfl⟩:=List.mem_map.1 hg
  rfl
 have he:=dec_enc hby hd (hrs:=q.h.rs) (gs:=q.gs.map cg) rfl (gds_cg _) hn
 obtain ⟨_,_,k3,k4⟩:=handle_ok (q:=q) (by rw [he]) hn (fun x hx=>(dj2 x hx).2) rfl (gds_cg _).symm rfl rfl
 obtain ⟨_,_,_,_,z5,z6,hp5,hpn,_⟩:=hcheck_zero z
 have hp0:0≤q.h.pts∧q.h.pts≤4096∧(q.h.op≠5→q.h.pts=0):=by
  by_cases h5:q.h.op=5
  · have:=hp5 h5;omega
  · have:=hpn h5;omega
 have hrl:q.h.rs.length≤64:=by
  by_cases h4:4≤q.h.op
  · exact (z5 h4).2.1
  · rw [z6 (by omega)];simp
 obtain ⟨v0,v3,hl,c0,c1,_⟩:=isAns_true k3 hp0.1
 have hs:hserve bs=ansBytes q.h.op (qAns q).val (qAns q).cnt (qAns q).recs:=by unfold hserve;rw [hd,if_neg (by simp)]
 have hlen:=ansBytes_len q.h.op (qAns q).val (qAns q).cnt (qAns q).recs
 have hrd:=read_respond z k3 (qAns_u64 fun x hx=>(dj2 x hx).2)
 obtain ⟨t,ht⟩:∃ t,ansBytes q.h.op (qAns q).val (qAns q).cnt (qAns q).recs=0::(qAns q).val::t:=⟨_,rfl⟩
 rw [hs]
 refine ⟨(qAns q).val,(qAns q).cnt,(qAns q).recs,t,ht,v0,v3,hrd,?_,z,?_,ansBytes_by v0 v3 c0 (by omega),by unfold maxLen;omega⟩
 · rw [hlen]
   unfold hresp
   rw [if_pos z]
   by_cases h5:q.h.op=5
   · rw [if_pos h5,if_pos h5];push_cast;omega
   · rw [if_neg h5,if_neg h5];have:=hp0.2.2 h5;push_cast;omega
 · rw [hlen];split <;> omega
end
section
open Go.RowKit Go.Shelf
abbrev HeldC (w0:World) (hb:Nat) (v0 v1 v2 v3:Value) (ab:Nat) (val:Int) (b off:Nat) (w:World):Prop :=
 Below w0.heap.size w0 w∧w.cell? ⟨hb,0,none⟩=some v0∧w.cell? ⟨hb,1,none⟩=some v1∧w.cell? ⟨hb,2,none⟩=some v2∧w.cell? ⟨hb,3,none⟩=some v3∧w.cell? ⟨ab,0,none⟩=some (.int .i64 val)∧w.cell? ⟨b,off,none⟩=some (.int .u8 0)∧w.cell? ⟨b,off+1,none⟩=some (.int .u8 val)
theorem cell_onC {w w':World} {g i:Nat} {v:Value} (hb:Below w.heap.size w w') (h:w.cell? ⟨g,i,none⟩=some v):w'.cell? ⟨g,i,none⟩=some v:=by
 exact (hb.cell (p:=⟨g,i,none⟩) (cell_lt h)).trans h
theorem keepC {w0 wk w':World} {hb:Nat} {v0 v1 v2 v3:Value} {ab:Nat} {val:Int} {b off:Nat} (hbl:Below wk.heap.size wk w') (h:HeldC w0 hb v0 v1 v2 v3 ab val b off wk):HeldC w0 hb v0 v1 v2 v3 ab val b off w' :=
 ⟨bl_step h.1 hbl,cell_onC hbl h.2.1,cell_onC hbl h.2.2.1,cell_onC hbl h.2.2.2.1,cell_onC hbl h.2.2.2.2.1,cell_onC hbl h.2.2.2.2.2.1,cell_onC hbl h.2.2.2.2.2.2.1,cell_onC hbl h.2.2.2.2.2.2.2⟩
theorem keepCD {w0 wk:World} {hb:Nat} {v0 v1 v2 v3:Value} {ab:Nat} {val:Int} {b off:Nat} (h:HeldC w0 hb v0 v1 v2 v3 ab val b off wk):HeldC w0 hb v0 v1 v2 v3 ab val b off wk.drew :=
 keepC (bl_drew (Below.refl _ _)) h
theorem aliveC (w:World) (hal:∀ w':World,Below w.heap.size w w'→Calls Tryz.prog 13 #[] w' fun e w2=>e=.returned (.bool true)∧Below w'.heap.size w' w2) {wk:World} {hb:Nat} {v0 v1 v2 v3:Value} {ab:Nat} {val:Int} {b off:Nat} (h:HeldC w hb v0 v1 v2 v3 ab val b off wk) :
 Calls Tryz.prog 13 #[] wk fun e w'=>e=.returned (.bool true)∧Below wk.heap.size wk w':=hal wk h.1
theorem respC (op vs pts:Int) (rs:List Rg) (A:Option Addr) (c L:Nat) (hz:hcheck op vs rs pts=0) (hl:(L:Int)=hresp op vs rs pts) (w:World) :
 Calls Tryz.prog 31 #[.agg #[.int .i64 op,.int .i64 vs,.slice A rs.length c,.int .i64 pts]] w fun e w'=>e=.returned (.int .i64 (L:Int))∧Below w.heap.size w w':=by
 rw [hl]
 exact rresponse_any op vs pts rs A c w hz
section
variable (bs:List Int) (A:Option Addr) (c:Nat) (w:World)
variable (hs:Sl w w.heap.size A (byCells bs)) (hcap:bs.length≤c) (hby:By bs) (hfix:Fixed w) (hg:0<w.heap.size) (hw:MW w)
include hs hcap hby hfix hg hw
theorem lawClassifies:Calls Tryz.prog 7 #[.slice A bs.length c] w fun e w'=>e=.returned (.bool true)∧Below w.heap.size w w':=by
 have HK:=hide (skipB21 bs A c w hs hby)
 have hby':∀ (j:Nat) (x:Int),bs[j]?=some x→0≤x∧x≤255:=fun j x h=>hby x (List.mem_of_getElem? h)
 have HAL:=hide (fun (w':World) (hb:Below w.heap.size w w')=>alive21 w' (hfix.below hb hg) (Nat.lt_of_lt_of_le hg hb.size) (hw.step hb))
 have HSV:=hide (fun (w':World) (hb:Below w.heap.size w w') (hmax:bs.length≤300000)=>serve_any bs A c w' ((hs.below hb).more hb.size) hcap hby hmax (hfix.below hb hg) (Nat.lt_of_lt_of_le hg hb.size) (hw.step hb))
 have HCL:=hide (fun (w':World) (hb:Below w.heap.size w w')=>rclassify_any bs A c w' ((hs.below hb).more hb.size) hby')
 have HPA:=hide (fun (w':World) (hb:Below w.heap.size w w')=>rparse_any bs A c w' ((hs.below hb).more hb.size) hby')
 have HBY:=hide hby
 clear hs hcap hby hby' hfix hg hw
 go_enter Tryz.func7,Tryz.ntmps7
 go_wp2_with fail
 refine HK.out.mono ?_
 rintro e w1 ⟨z,rfl,hz,hT,HB1⟩
 rcases hz with rfl | rfl
 · have h6:=(hT rfl).1
   have S1:=hide (HSV.out w1 HB1 (by omega))
   clear hT h6 HSV HK
   go_wp2_with fail
   refine S1.out.mono ?_
   rintro e w2 ⟨GA,gc,rfl,hgc,hb2,hs2⟩
   have HB2:=bl_step HB1 hb2
   have HS2:=hide hs2
   clear hs2 hb2 S1
   go_wp2_with fail
   refine (HCL.out w2 HB2).mono ?_
   rintro e w3 ⟨rfl,hb3⟩
   have HB3:=bl_step HB2 hb3
   have HS3:=hide ((HS2.out.below hb3).more hb3.size)
   clear hb3 HS2 HCL
   by_cases hc:hclass bs=0
   · obtain ⟨val,cnt,recs,t,hser,v0,v3,hrd,hlen,hck,hl1,hb1,hrl⟩:=serve_ok HBY.out hc
     have HSER:=hide hser
     obtain ⟨X,hX⟩:∃ X,X=hserve bs:=⟨_,rfl⟩
     rw [← hX] at HS3 hrd hlen hl1 hb1 HSER hgc
     have HRD:=hide hrd;have HLEN:=hide hlen;have HCK:=hide hck;have HBX:=hide hb1;have HL1:=hide hl1;have HRL:=hide hrl
     rw [hc]
     rw [← hX]
     have hX2:2≤X.length:=by rw [HSER.out];simp
     clear hX hser hrd hlen hck hb1 hl1 hrl
     have HC:=hide hc
     clear hc
     go_wp2_with fail
     refine (HPA.out w3 HB3).mono ?_
     rintro e w4 ⟨PA,pc,rfl,hs4,hb4⟩
     obtain ⟨⟨⟨op,vs,rs,pts⟩,n,er⟩,hP⟩:∃ r,r=hparse bs:=⟨_,rfl⟩
     rw [← hP] at hs4 HRD HLEN HCK HRL
     rw [← hP]
     clear hP HPA HC
     dsimp only at hs4 HRD HLEN HCK HRL ⊢
     have HB4:=bl_step HB3 hb4
     have HS4:=hide ((HS3.out.below hb4).more hb4.size)
     obtain ⟨ab,hab⟩:∃ ab,ab=w4.heap.size:=⟨_,rfl⟩
     obtain ⟨w5,hw5⟩:∃ w5,w5=w4.alloc (.cells #[.int .i64 op,.int .i64 vs,.slice PA rs.length pc,.int .i64 pts] 24):=⟨_,rfl⟩
     have hb5:Below w4.heap.size w4 w5:=by rw [hw5];exact bA
     have HB5:=bl_step HB4 hb5
     have H5:Blk w5 ab 24 #[.int .i64 op,.int .i64 vs,.slice PA rs.length pc,.int .i64 pts]:=by rw [hw5,hab];exact Blk.new _ _ _
     have HS5:=hide ((HS4.out.below hb5).more hb5.size)
     have R5:=read_any op vs pts rs PA pc X GA gc w5 ((hs4.below hb5).more hb5.size) HRL.out HS5.out hgc HL1.out HBX.out
     rw [HRD.out] at R5
     have HR5:=hide R5
     have b0:w5.cell? ⟨ab,0,none⟩=some (.int .i64 op):=H5.cell (i:=0) rfl
     have b1:w5.cell? ⟨ab,1,none⟩=some (.int .i64 vs):=H5.cell (i:=1) rfl
     have b2:w5.cell? ⟨ab,2,none⟩=some (.slice PA rs.length pc):=H5.cell (i:=2) rfl
     have b3:w5.cell? ⟨ab,3,none⟩=some (.int .i64 pts):=H5.cell (i:=3) rfl
     rw [hw5,hab] at b0 b1 b2 b3
     have HAB:=hide hab
     clear hs4 hb4 hb5 R5 HS3 HS4 hab
     go_wp2_with fail
     rw [← hw5,← HAB.out]
     clear hw5 b0 b1 b2 b3
     refine HR5.out.mono ?_
     rintro e w6 ⟨RA,rc,rfl,hb6,_⟩
     dsimp only
     have HB6:=bl_step HB5 hb6
     have H6:=H5.step hb6
     have HS6:=hide ((HS5.out.below hb6).more hb6.size)
     clear hb6 H5 HS5 HR5
     obtain ⟨cb,hcb⟩:∃ cb,cb=w6.heap.size:=⟨_,rfl⟩
     obtain ⟨w7,hw7⟩:∃ w7,w7=w6.alloc (.cells #[.int .i64 val,.int .i64 cnt,.slice RA recs.length rc] 33):=⟨_,rfl⟩
     have hb7:Below w6.heap.size w6 w7:=by rw [hw7];exact bA
     have HB7:=bl_step HB6 hb7
     have H7:=H6.step hb7
     have A7:Blk w7 cb 33 #[.int .i64 val,.int .i64 cnt,.slice RA recs.length rc]:=by rw [hw7,hcb];exact Blk.new _ _ _
     have hS7:=(HS6.out.below hb7).more hb7.size
     have b0:w7.cell? ⟨ab,0,none⟩=some (.int .i64 op):=H7.cell (i:=0) rfl
     have b1:w7.cell? ⟨ab,1,none⟩=some (.int .i64 vs):=H7.cell (i:=1) rfl
     have b2:w7.cell? ⟨ab,2,none⟩=some (.slice PA rs.length pc):=H7.cell (i:=2) rfl
     have b3:w7.cell? ⟨ab,3,none⟩=some (.int .i64 pts):=H7.cell (i:=3) rfl
     have a0:w7.cell? ⟨cb,0,none⟩=some (.int .i64 val):=A7.cell (i:=0) rfl
     rcases hS7 with h0 | ⟨b,off,rfl,hbb,hcc⟩
     · rw [HSER.out] at h0;simp [byCells] at h0
     have d0:w7.cell? ⟨b,off,none⟩=some (.int .u8 0):=hcc 0 _ (by rw [HSER.out];rfl)
     have d1:w7.cell? ⟨b,off+1,none⟩=some (.int .u8 val):=hcc 1 _ (by rw [HSER.out];rfl)
     have hH:HeldC w ab (.int .i64 op) (.int .i64 vs) (.slice PA rs.length pc) (.int .i64 pts) cb val b off w7:=⟨HB7,b0,b1,b2,b3,a0,d0,d1⟩
     have hwv:IntKind.i64.wrap val=val:=by rw [IntKind.wrap_i64];omega
     obtain ⟨L,hL⟩:∃ L,L=X.length:=⟨_,rfl⟩
     rw [← hL] at HLEN hX2
     have HLL:=hide HLEN.out
     rw [← hL]
     have h1L:(1:Int)<((L:Nat):Int):=by omega
     have h0L:0<L:=by omega
     have HCBB:=hide hcb
     have HV:=hide (And.intro v0 v3)
     clear hcb hb7 H6 H7 A7 hbb hcc HS6 v0 v3 hL HRD HB1 HB2 HB3 HB4 HB5 HB6 HB7 b0 b1 b2 b3 a0 d0 d1
     go_wp2_with fail
     rw [← hw7,← HCBB.out]
     clear hw7
     go_region_held3 (fun w'=>Below w.heap.size w w'∧w'.cell? ⟨ab,0,none⟩=some (.int .i64 op)∧w'.cell? ⟨ab,1,none⟩=some (.int .i64 vs)∧w'.cell? ⟨ab,2,none⟩=some (.slice PA rs.length pc)∧w'.cell? ⟨ab,3,none⟩=some (.int .i64 pts)∧w'.cell? ⟨cb,0,none⟩=some (.int .i64 val)∧w'.cell? ⟨b,off,none⟩=some (.int .u8 0)∧w'.cell? ⟨b,off+1,none⟩=some (.int .u8 val))
      (first | exact keepC (by assumption) (by assumption) | exact keepCD (by assumption))
      (first
        | (go_at_call 13;refine (aliveC w HAL.out (by assumption)).mono ?_;rintro e w' ⟨rfl,hb'⟩)
        | (go_at_call 31;refine (respC op vs pts rs PA pc L HCK.out HLEN.out _).mono ?_;rintro e w' ⟨rfl,hb'⟩))
     all_goals go_wp2
     all_goals go_ret
     all_goals exact ⟨rfl,And.left (by assumption)⟩
   · have hsb:=serve_bad hc
     rw [hsb] at HS3 hgc ⊢
     have hcb:=hclass_bd bs
     obtain ⟨E,hE⟩:∃ E,E=hclass bs:=⟨_,rfl⟩
     rw [← hE] at HS3 hgc hc hcb ⊢
     have hne:(E != 0)=true:=by simpa using hc
     clear hsb hE HPA
     go_wp2_with fail
     refine (HAL.out w3 HB3).mono ?_
     rintro e w4 ⟨rfl,hb4⟩
     have hs4:=(HS3.out.below hb4).more hb4.size
     rcases hs4 with h0 | ⟨b,off,rfl,hbb,hcc⟩
     · simp [byCells] at h0
     have d0:w4.cell? ⟨b,off,none⟩=some (.int .u8 E):=hcc 0 _ rfl
     have hwv:IntKind.i64.wrap E=E:=by rw [IntKind.wrap_i64];omega
     go_wp2
     go_ret
     exact ⟨rfl,bl_step HB3 hb4⟩
 · clear HSV HCL HPA
   go_wp2_with fail
   refine (HAL.out w1 HB1).mono ?_
   rintro e w5 ⟨rfl,hb5⟩
   go_wp2
   go_ret
   exact ⟨rfl,bl_step HB1 hb5⟩
end
end
end Go.Proofs.YtpnoofphfomjoaaGreatDoor
