/- RefRec20 RefRun20 -/
import Derived.BigQuiet
import Derived.Deep.QuietTactic
import Derived.Lib.SliceRun
import Derived.OneCell
import Derived.Test.YtpnoofphfomjoaaGreatDoorPkM47
import Derived.Test.YtpnoofphfomjoaaGreatDoorPkM53
set_option maxRecDepth 1000000
set_option maxHeartbeats 8000000
namespace Go.Proofs.YtpnoofphfomjoaaGreatDoor
section
open Go.RowKit Go.Shelf
section
variable (gs:List Gr) (GA:Option Addr) (gc:Nat) (qs:List ((Int × Int) × Int)) (QA:Option Addr) (qc:Nat) (w:World)
variable (hg:Sl w w.heap.size GA (rgCells (gs.map (·.1)))) (hgs:GsR w gs) (hq:Sl w w.heap.size QA (quCs qs)) (hqj:∀ q∈qs,PJ q.1) (hqu:∀ q∈qs,U64 q.2)
include hg hgs hq hqj hqu
theorem rrecords (hf:fcheck (gs.map (·.1))=0) (hn1:1≤qs.length) (hn2:qs.length≤4096) :
 Calls Tryz.prog 96 #[.slice GA gs.length gc,.slice QA qs.length qc] w fun e w'=>∃ v,e=.returned v∧w'.ownsRow w.heap.size 90 2 v qs.length (recCs (hrecs gs qs))∧Below w.heap.size w w':=by
 have HCH:=hide (rfcheck_any (gs.map (·.1)) GA gc w hg)
 rw [List.length_map,hf] at HCH
 have HVA:=hide (rfvalid_any gs GA gc w hg hgs)
 have HME:=hide (fun (w':World) (hb:Below w.heap.size w w') (p:Pt) (hp:PJ p)=>rmember_any gs p hp GA gc w' ((hg.below hb).more hb.size) (hgs.step hb))
 have HQ:=hide hq;have HQJ:=hide hqj;have HQU:=hide hqu
 obtain ⟨V,hV⟩:∃ V,V=fenceOk gs:=⟨_,rfl⟩
 rw [← hV] at HVA
 have HV:=hide hV
 clear hg hgs hq hqj hqu hf hV
 have h1:¬ (qs.length:Int)<1:=by omega
 have h2:¬ (4096:Int)<(qs.length:Int):=by omega
 go_enter Tryz.func96,Tryz.ntmps96
 go_wp2_with fail
 refine HCH.out.mono ?_
 rintro e w1 ⟨rfl,rfl⟩
 clear HCH
 go_wp2_with fail
 refine HVA.out.mono ?_
 rintro e w1' ⟨rfl,hb1⟩
 clear HVA h1 h2
 go_wp2
 go_loopw [6,7] (fun o i wr=>∃ k:Nat,k≤qs.length∧i=.int .i64 k∧wr.ownsRow w1.heap.size 90 2 o k (recCs (hrecs gs (qs.take k)))∧Below w1.heap.size w1 wr)
  (fun _ i _=>qs.length - (intOf i).toNat)
 case atStart=>exact ⟨0,Nat.zero_le _,rfl,World.ownsRow_nil _ _ _ _,hb1⟩
 case round =>
  obtain ⟨k,hk,rfl,hown,hbr⟩:=hrel
  obtain ⟨OA,oc,rfl,hoc⟩:=own_slice hown
  by_cases hlt:k<qs.length
  · have hlti:(k:Int)<(qs.length:Int):=by omega
    obtain ⟨q,hr⟩:∃ q,qs[k]?=some q:=⟨_,List.getElem?_eq_getElem hlt⟩
    have hqj:=HQJ.out q (List.mem_of_getElem? hr)
    obtain ⟨b,off,rfl,hb,c0,c1,c2⟩:=(HQ.out.below hbr).qu hr
    have HNX:Hid (hrecs gs (qs.take (k+1))=hrecs gs (qs.take k)++[hrec gs q]):=hide (by rw [List.take_add_one,hr];unfold hrecs;rw [List.map_append];rfl)
    obtain ⟨⟨p1,p2⟩,id⟩:=q
    dsimp only at c0 c1 c2 hqj
    obtain ⟨xb,hxb⟩:∃ xb,xb=wr.heap.size:=⟨_,rfl⟩
    obtain ⟨w2,hw2⟩:∃ w2,w2=wr.alloc (.cells #[.int .u64 0,.int .u64 0] 90):=⟨_,rfl⟩
    have hb2:Below wr.heap.size wr w2:=by rw [hw2];exact bA
    have HBX:=bl_step hbr hb2
    have XB:Blk w2 xb 90 #[.int .u64 0,.int .u64 0]:=by rw [hw2,hxb];exact Blk.new _ _ _
    have HXN:(Value.slice OA k oc).ownBlock≠some xb:=fun e=>by have:=own_lt hown e;omega
    have HOWN:=own_step hown hb2
    have hkk:k≤4096:=by omega
    have hk0:(0:Int)≤(k:Int):=by omega
    have hxw:w1.heap.size≤xb:=by rw [hxb];exact hbr.size
    have d0:w2.cell? ⟨b,off+k*3,none⟩=some (.int .i64 p1):=by rw [hw2];exact (World.cell?_alloc_lt _ _ _ (cell_lt c0)).trans c0
    have d1:w2.cell? ⟨b,off+k*3+1,none⟩=some (.int .i64 p2):=by rw [hw2];exact (World.cell?_alloc_lt _ _ _ (cell_lt c1)).trans c1
    have d2:w2.cell? ⟨b,off+k*3+2,none⟩=some (.int .u64 id):=by rw [hw2];exact (World.cell?_alloc_lt _ _ _ (cell_lt c2)).trans c2
    rw [hw2] at d0 d1 d2
    have HM2:=hide (HME.out w2 HBX (p1,p2) hqj)
    clear hr hqj hown hbr
    cases V with
    | false =>
      have HRE:hrec gs ((p1,p2),id)=(0,0):=by unfold hrec;rw [← HV.out];simp
      clear HM2 hb2 HXN d0 d1 d2 c0 c1 c2
      have hsz:w2.heap.size=wr.heap.size+1:=by rw [hw2];simp
      obtain ⟨wx,hwx⟩:∃ wx,wx=w2:=⟨_,rfl⟩
      rw [← hwx] at XB HOWN HBX
      have xx0:wx.cell? ⟨xb,0,none⟩=some (.int .u64 0):=XB.cell (i:=0) rfl
      have xx1:wx.cell? ⟨xb,1,none⟩=some (.int .u64 0):=XB.cell (i:=1) rfl
      obtain ⟨i0,hi,hi0,hi1,hi2⟩:=info_parts rec_info
      have hbz:=bl_alloc (Below.refl wx.heap.size wx) (.cells #[.int .u64 0,.int .u64 0] 90)
      have N6:=Blk.new wx 90 #[.int .u64 0,.int .u64 0]
      have hownx:=own_step HOWN hbz
      have hwx2:=bl_step HBX hbz
      obtain ⟨g7,cap7,w7,hrun,hown7,hgrow7,_,_⟩:=run_append_lies (P:=Tryz.prog) (wx.alloc (.cells #[.int .u64 0,.int .u64 0] 90)) 31 31 w1.heap.size 90 i0 (.agg #[.int .u64 0,.int .u64 0]) 2 16 Tryz.underlying31 hi hi0 hi1 hi2 rfl (by decide) _ k _ hownx ⟨wx.heap.size,0,none⟩ 1 1 [.int .u64 0,.int .u64 0] rfl (fun j u hu=>by rw [add_zero_off];exact N6.cell (by simpa using hu)) (by simp [Value.oneCell']) (by omega) (by unfold maxLen;omega) (by omega) hwx2.size _ rfl
      have hw7:Below w1.heap.size w1 w7:=hwx2.grown hgrow7 hwx2.size (fun j hj=>own_base hownx hj)
      have q1:w7.ownsRow w1.heap.size 90 2 (.slice (some ⟨g7,0,none⟩) (k+1) cap7) (k+1) (recCs (hrecs gs (qs.take (k+1)))):=by
       rw [HNX.out,HRE,recCs_snoc13]
       exact hown7
      clear hown7 hgrow7 N6 hownx hwx2 hi hi0 hi1 hi2
      rw [hwx,hsz,hw2] at hrun
      rw [hwx,hw2,hxb] at xx0 xx1
      go_wp2_with (at_builtin;refine wpList_append_run (.tmp 47) (.tmp 49) 31 rfl rfl _ _ rfl rfl hrun ?_)
      clear hrun xx0 xx1
      go_wp2
      go_roundw
      case rel=>exact ⟨k+1,by omega,by go_num,q1,hw7⟩
      case measure=>simp [intOf];omega
    | true =>
      go_wp2_with fail
      rw [← hw2,← hxb]
      have D2:Hid (w2.cell? ⟨b,off+k*3+2,none⟩=some (.int .u64 id)):=hide (by rw [← hw2] at d2;exact d2)
      clear d0 d1 d2 c0 c1 c2 hw2 hxb hb2
      unfold ptV at HM2
      refine HM2.out.mono ?_
      rintro e wm ⟨rfl,hbm⟩
      have HOWN:=own_step HOWN hbm
      have XB:=XB.step hbm
      have HBX:=bl_step HBX hbm
      have d2:wm.cell? ⟨b,off+k*3+2,none⟩=some (.int .u64 id):=cell_onS hbm D2.out
      obtain ⟨M,hM⟩:∃ M,M=memOk gs (p1,p2):=⟨_,rfl⟩
      rw [← hM]
      clear HM2 D2 hbm
      cases M with
      | false =>
        have HRE:hrec gs ((p1,p2),id)=(0,0):=by unfold hrec;rw [← hM];simp
        clear d2 hM HXN
        obtain ⟨wx,hwx⟩:∃ wx,wx=wm:=⟨_,rfl⟩
        subst hwx
        have xx0:wx.cell? ⟨xb,0,none⟩=some (.int .u64 0):=XB.cell (i:=0) rfl
        have xx1:wx.cell? ⟨xb,1,none⟩=some (.int .u64 0):=XB.cell (i:=1) rfl
        obtain ⟨i0,hi,hi0,hi1,hi2⟩:=info_parts rec_info
        have hbz:=bl_alloc (Below.refl wx.heap.size wx) (.cells #[.int .u64 0,.int .u64 0] 90)
        have N6:=Blk.new wx 90 #[.int .u64 0,.int .u64 0]
        have hownx:=own_step HOWN hbz
        have hwx2:=bl_step HBX hbz
        obtain ⟨g7,cap7,w7,hrun,hown7,hgrow7,_,_⟩:=run_append_lies (P:=Tryz.prog) (wx.alloc (.cells #[.int .u64 0,.int .u64 0] 90)) 31 31 w1.heap.size 90 i0 (.agg #[.int .u64 0,.int .u64 0]) 2 16 Tryz.underlying31 hi hi0 hi1 hi2 rfl (by decide) _ k _ hownx ⟨wx.heap.size,0,none⟩ 1 1 [.int .u64 0,.int .u64 0] rfl (fun j u hu=>by rw [add_zero_off];exact N6.cell (by simpa using hu)) (by simp [Value.oneCell']) (by omega) (by unfold maxLen;omega) (by omega) hwx2.size _ rfl
        have hw7:Below w1.heap.size w1 w7:=hwx2.grown hgrow7 hwx2.size (fun j hj=>own_base hownx hj)
        have q1:w7.ownsRow w1.heap.size 90 2 (.slice (some ⟨g7,0,none⟩) (k+1) cap7) (k+1) (recCs (hrecs gs (qs.take (k+1)))):=by
         rw [HNX.out,HRE,recCs_snoc13]
         exact hown7
        clear hown7 hgrow7 N6 hownx hwx2 hi hi0 hi1 hi2
        go_wp2_with (at_builtin;refine wpList_append_run (.tmp 47) (.tmp 49) 31 rfl rfl _ _ rfl rfl hrun ?_)
        clear hrun xx0 xx1
        go_wp2
        go_roundw
        case rel=>exact ⟨k+1,by omega,by go_num,q1,hw7⟩
        case measure=>simp [intOf];omega
      | true =>
        have HRE:hrec gs ((p1,p2),id)=(1,id):=by unfold hrec;rw [← hM,← HV.out];simp
        have hbo:b≠xb∨True:=.inr trivial
        have x0:=XB.cell (i:=0) rfl
        have x1:=XB.cell (i:=1) rfl
        have f0:=XB.frozen 0
        have f1:=XB.frozen 1
        obtain ⟨wx,hwx⟩:∃ wx,wx=(wm.setCell ⟨xb,0,none⟩ (.int .u64 1)).setCell ⟨xb,1,none⟩ (.int .u64 id):=⟨_,rfl⟩
        have XB:Blk wx xb 90 #[.int .u64 1,.int .u64 id]:=by rw [hwx];exact (XB.set 0 (.int .u64 1)).set 1 (.int .u64 id)
        have HOWN:wx.ownsRow w1.heap.size 90 2 (.slice OA k oc) k (recCs (hrecs gs (qs.take k))):=by rw [hwx];exact ownsRow_setCell_other (ownsRow_setCell_other HOWN (a:=⟨xb,0,none⟩) HXN _) (a:=⟨xb,1,none⟩) HXN _
        have HBX:Below w1.heap.size w1 wx:=by rw [hwx];exact (HBX.setCell (p:=⟨xb,0,none⟩) hxw _).setCell (p:=⟨xb,1,none⟩) hxw _
        have hsz:wx.heap.size=wm.heap.size:=by rw [hwx];simp
        clear hM HXN hbo
        have xx0:wx.cell? ⟨xb,0,none⟩=some (.int .u64 1):=XB.cell (i:=0) rfl
        have xx1:wx.cell? ⟨xb,1,none⟩=some (.int .u64 id):=XB.cell (i:=1) rfl
        obtain ⟨i0,hi,hi0,hi1,hi2⟩:=info_parts rec_info
        have hbz:=bl_alloc (Below.refl wx.heap.size wx) (.cells #[.int .u64 1,.int .u64 id] 90)
        have N6:=Blk.new wx 90 #[.int .u64 1,.int .u64 id]
        have hownx:=own_step HOWN hbz
        have hwx2:=bl_step HBX hbz
        obtain ⟨g7,cap7,w7,hrun,hown7,hgrow7,_,_⟩:=run_append_lies (P:=Tryz.prog) (wx.alloc (.cells #[.int .u64 1,.int .u64 id] 90)) 31 31 w1.heap.size 90 i0 (.agg #[.int .u64 0,.int .u64 0]) 2 16 Tryz.underlying31 hi hi0 hi1 hi2 rfl (by decide) _ k _ hownx ⟨wx.heap.size,0,none⟩ 1 1 [.int .u64 1,.int .u64 id] rfl (fun j u hu=>by rw [add_zero_off];exact N6.cell (by simpa using hu)) (by simp [Value.oneCell']) (by omega) (by unfold maxLen;omega) (by omega) hwx2.size _ rfl
        have hw7:Below w1.heap.size w1 w7:=hwx2.grown hgrow7 hwx2.size (fun j hj=>own_base hownx hj)
        have q1:w7.ownsRow w1.heap.size 90 2 (.slice (some ⟨g7,0,none⟩) (k+1) cap7) (k+1) (recCs (hrecs gs (qs.take (k+1)))):=by
         rw [HNX.out,HRE,recCs_snoc13]
         exact hown7
        clear hown7 hgrow7 N6 hownx hwx2 hi hi0 hi1 hi2
        rw [hsz,hwx] at hrun
        rw [hwx] at xx0 xx1
        go_wp2_with (at_builtin;refine wpList_append_run (.tmp 47) (.tmp 49) 31 rfl rfl _ _ rfl rfl hrun ?_)
        clear hrun xx0 xx1 x0 x1 f0 f1 d2
        go_wp2
        go_roundw
        case rel=>exact ⟨k+1,by omega,by go_num,q1,hw7⟩
        case measure=>simp [intOf];omega
  · obtain rfl:k=qs.length:=by omega
    rw [List.take_length] at hown
    have hlti:¬ (qs.length:Int)<(qs.length:Int):=by omega
    go_wp2
    go_ret
    exact ⟨_,rfl,hown,hbr⟩
end
end
section
open Go.RowKit Go.Shelf
theorem results_r18 {fn:Func} {p u:Tmp} {tmps:Array Value} {w:World} {g:Nat} {v0 v1 v2:Value} (h:fn.results=#[.cell p 38,.tmp u])
 (hp:tmps.getD p undef=.pointer (some ⟨g,0,none⟩)) (hb:Blk w g 38 #[v0,v1,v2]) :
 (results fn tmps).run Tryz.prog w=.ok (.tuple #[.agg #[v0,v1,v2],tmps.getD u undef]) w:=by
 have c0:=hb.cell (i:=0) rfl
 have c1:=hb.cell (i:=1) rfl
 have c2:=hb.cell (i:=2) rfl
 have hp':tmps[p]?.getD undef=.pointer (some ⟨g,0,none⟩):=by rw [← hp];simp
 simp [results,h,hp',go_sem,c0,c1,c2]
theorem readOut_end {r:Ans × Int} {w w2:World} {g c:Nat} {A:Option Addr} {val cnt er:Int} {recs:List (Int × Int)} {u0 u1 u2:Value} (hr:r=(⟨val,cnt,recs⟩,er)) (hk:Below w.heap.size w w2) (hg:w.heap.size≤g)
 (hs:Sl w2 w2.heap.size A (recCs recs)) (hne:recs≠[]→∀ x,A=some x→x.block≠g) :
 ReadOut r w (.returned (.tuple #[.agg #[.int .i64 val,.int .i64 cnt,.slice A recs.length c],.int .i64 er])) (((w2.setCell ⟨g,0,none⟩ u0).setCell ⟨g,1,none⟩ u1).setCell ⟨g,2,none⟩ u2):=by
 subst hr
 have hne':recCs recs≠[]→∀ x,A=some x→x.block≠g:=fun h=>hne fun e=>h (by rw [e];rfl)
 have far:∀ {wx:World} (o:Nat) (u:Value),Sl wx wx.heap.size A (recCs recs)→Sl (wx.setCell ⟨g,o,none⟩ u) (wx.setCell ⟨g,o,none⟩ u).heap.size A (recCs recs):=fun o u h=>(h.far (p:=⟨g,o,none⟩) hne' u).more (by simp)
 exact ⟨A,c,rfl,((hk.setCell (p:=⟨g,0,none⟩) hg _).setCell (p:=⟨g,1,none⟩) hg _).setCell (p:=⟨g,2,none⟩) hg _,far 2 _ (far 1 _ (far 0 _ hs))⟩
section
variable (gs:List Gr) (GA:Option Addr) (gc:Nat) (qs:List ((Int × Int) × Int)) (QA:Option Addr) (qc:Nat) (w:World)
variable (hg:Sl w w.heap.size GA (rgCells (gs.map (·.1)))) (hgs:GsR w gs) (hq:Sl w w.heap.size QA (quCs qs)) (hqj:∀ q∈qs,PJ q.1) (hqu:∀ q∈qs,U64 q.2)
include hg hgs hq hqj hqu
theorem rrun:Calls Tryz.prog 53 #[.slice GA gs.length gc,.slice QA qs.length qc] w (ReadOut (hbatch gs qs) w):=by
 obtain ⟨rb,hrb⟩:∃ rb,rb=w.heap.size:=⟨_,rfl⟩
 obtain ⟨w0,hw0⟩:∃ w0,w0=w.alloc (.cells #[.int .i64 0,.int .i64 0,.slice none 0 0] 38):=⟨_,rfl⟩
 have hb0:Below w.heap.size w w0:=by rw [hw0];exact bA
 have C0:Blk w0 rb 38 #[.int .i64 0,.int .i64 0,.slice none 0 0]:=by rw [hw0,hrb];exact Blk.new _ _ _
 have HCH:=hide (rfcheck_any (gs.map (·.1)) GA gc w0 ((hg.below hb0).more hb0.size))
 rw [List.length_map] at HCH
 have HRE:=hide (fun (hf:fcheck (gs.map (·.1))=0) (h1:1≤qs.length) (h2:qs.length≤4096)=>rrecords gs GA gc qs QA qc w0 ((hg.below hb0).more hb0.size) (hgs.step hb0) ((hq.below hb0).more hb0.size) hqj hqu hf h1 h2)
 have HVA:=hide (fun (w':World) (hb:Below w.heap.size w w')=>rfvalid_any gs GA gc w' ((hg.below hb).more hb.size) (hgs.step hb))
 have hcl:=hrecs_cln gs hqu
 have hhl:(hrecs gs qs).length=qs.length:=by unfold hrecs;rw [List.length_map]
 have hcle:=cntL_le _ hcl
 have HB:Hid (hbatch gs qs=if bcheck gs qs.length≠0 then (ansZero,bcheck gs qs.length) else (⟨bif fenceOk gs then 1 else 0,cntL (hrecs gs qs),isort rkey (hrecs gs qs)⟩,0)):=hide rfl
 have HBC:Hid (bcheck gs qs.length=if fcheck (gs.map (·.1))≠0 then fcheck (gs.map (·.1)) else if qs.length<1∨4096<qs.length then 6 else 0):=hide rfl
 obtain ⟨fc,hfc⟩:∃ fc,fc=fcheck (gs.map (·.1)):=⟨_,rfl⟩
 rw [← hfc] at HCH HRE HBC
 obtain ⟨V,hV⟩:∃ V,V=fenceOk gs:=⟨_,rfl⟩
 rw [← hV] at HVA HB
 clear hg hgs hq hqj hqu hfc hV
 have z0:=C0.cell (i:=0) rfl
 have z1:=C0.cell (i:=1) rfl
 have z2:=C0.cell (i:=2) rfl
 have y0:=C0.frozen 0
 have y1:=C0.frozen 1
 have y2:=C0.frozen 2
 have hlt:=C0.lt
 go_enter Tryz.func53,Tryz.ntmps53
 go_wp2_with fail
 rw [← hw0,← hrb]
 refine HCH.out.mono ?_
 rintro e w1 ⟨rfl,hw1⟩
 subst hw1
 have hrb':w.heap.size≤rb:=by omega
 have HRB:=hide hrb;have HC0:=hide C0;have HW0:=hide hw0;have HB0:=hide hb0
 clear hrb C0 hw0 hb0 HCH
 by_cases hf:fc=0
 · subst hf
   by_cases h1:qs.length<1
   · have h1':(qs.length:Int)<1:=by omega
     have HE:Hid (hbatch gs qs=(⟨0,0,[]⟩,6)):=hide (by rw [HB.out,HBC.out];simp [h1];rfl)
     clear HRE HVA
     go_wp2
     refine bodyPost_ret (results_r18 (p:=4) (u:=5) rfl rfl (((HC0.out.set 0 _).set 1 _).set 2 _)) rfl ?_
     exact readOut_end (recs:=[]) HE.out HB0.out hrb' (Sl.nil _ _ _) (fun h=>absurd rfl h)
   · have h1':¬ (qs.length:Int)<1:=by omega
     by_cases h2:4096<qs.length
     · have h2':(4096:Int)<(qs.length:Int):=by omega
       have HE:Hid (hbatch gs qs=(⟨0,0,[]⟩,6)):=hide (by rw [HB.out,HBC.out];simp [h2];rfl)
       clear HRE HVA
       go_wp2
       refine bodyPost_ret (results_r18 (p:=4) (u:=5) rfl rfl (((HC0.out.set 0 _).set 1 _).set 2 _)) rfl ?_
       exact readOut_end (recs:=[]) HE.out HB0.out hrb' (Sl.nil _ _ _) (fun h=>absurd rfl h)
     · have h2':¬ (4096:Int)<(qs.length:Int):=by omega
       have HE:Hid (hbatch gs qs=(⟨bif V then 1 else 0,cntL (hrecs gs qs),isort rkey (hrecs gs qs)⟩,0)):=hide (by rw [HB.out,HBC.out];simp [h1,h2])
       have HR1:=hide (HRE.out rfl (by omega) (by omega))
       obtain ⟨L,hL⟩:∃ L,L=hrecs gs qs:=⟨_,rfl⟩
       rw [← hL] at HR1 HE hcl hhl hcle
       have hLn:L.length≤4096:=by omega
       have HSRT:=hide (fun (A:Option Addr) (c:Nat) (w':World) (hs:Sl w' w'.heap.size A (recCs L))=>rsort3 L hcl hLn A c w' hs)
       have HCNT:=hide (fun (A:Option Addr) (c:Nat) (w':World) (hs:Sl w' w'.heap.size A (recCs L))=>rcount3 L hcl hLn A c w' hs)
       have HHL:=hide hhl
       clear HRE HB HBC hL hcl hhl z0 z1 z2 y0 y1 y2
       go_wp2_with fail
       refine HR1.out.mono ?_
       rintro e w2 ⟨v,rfl,hv,hb2⟩
       obtain ⟨LA,lc,rfl,hlc⟩:=own_slice hv
       rw [← HHL.out] at hv
       have HS2:=hide (Sl.of_own hv)
       have hs2:=HS2.out
       rw [← HHL.out]
       have HB2:=bl_step HB0.out hb2
       have HC2:=hide (HC0.out.step hb2)
       have hrb2:rb<w2.heap.size:=HC2.out.lt
       clear hv hlc hb2
       go_wp2_with fail
       refine (HSRT.out LA lc w2 hs2).mono ?_
       rintro e w3 ⟨v,rfl,hv3,hb3⟩
       obtain ⟨SA,sc,rfl,hsc⟩:=own_slice hv3
       have HOW3:=hide hv3
       have HS3:=hide ((hs2.below hb3).more hb3.size)
       have HB3:=bl_step HB2 hb3
       have HC3:=hide (HC2.out.step hb3)
       clear hv3 hs2 hb3 hsc
       go_wp2_with fail
       refine (HCNT.out LA lc w3 HS3.out).mono ?_
       rintro e w4 ⟨rfl,hb4⟩
       have hcv:IntKind.i64.wrap ((cntL L:Nat):Int)=((cntL L:Nat):Int):=by rw [IntKind.wrap_i64];omega
       have HOW4:=hide (own_step HOW3.out hb4)
       have HB4:=bl_step HB3 hb4
       have HC4:=hide (HC3.out.step hb4)
       obtain ⟨tb,htb⟩:∃ tb,tb=w4.heap.size:=⟨_,rfl⟩
       obtain ⟨w5,hw5⟩:∃ w5,w5=w4.alloc (.cells #[.int .i64 0,.int .i64 (cntL L:Nat),.slice SA L.length sc] 38):=⟨_,rfl⟩
       have hb5:Below w4.heap.size w4 w5:=by rw [hw5];exact bA
       have HOW5:=hide (own_step HOW4.out hb5)
       have HB5:=bl_step HB4 hb5
       have HC5:=hide (HC4.out.step hb5)
       have T5:Blk w5 tb 38 #[.int .i64 0,.int .i64 (cntL L:Nat),.slice SA L.length sc]:=by rw [hw5,htb];exact Blk.new _ _ _
       have HT5:=hide T5
       have HNB:Hid (L≠[]→∀ x,SA=some x→x.block≠rb∧x.block≠tb):=hide fun _ x hx=>by
        have h1:=own_base HOW4.out (k:=x.block) (by rw [hx];rfl)
        have h2:=own_lt HOW4.out (k:=x.block) (by rw [hx];rfl)
        omega
       have HVV:=hide (HVA.out w5 HB5)
       have HTB:Hid (rb<tb∧w.heap.size≤tb):=hide (by have:=HC4.out.lt;have:=HB4.size;omega)
       clear hb4 HCNT HSRT HVA T5 hb5 HOW3 HOW4 HC2 HC3 HC4 HS2 HS3
       go_wp2_with fail
       rw [← hw5,← htb]
       clear hw5 htb
       refine HVV.out.mono ?_
       rintro e w6 ⟨rfl,hb6⟩
       have HB6:=bl_step HB5 hb6
       have T6:=HT5.out.step hb6
       have C6:=HC5.out.step hb6
       have HT6:=hide T6;have HC6:=hide C6
       have HS6:=hide (Sl.of_own (own_step HOW5.out hb6))
       have t0:=T6.cell (i:=0) rfl
       have t1:=T6.cell (i:=1) rfl
       have t2:=T6.cell (i:=2) rfl
       have f0:=T6.frozen 0
       have z0:=C6.cell (i:=0) rfl
       have z1:=C6.cell (i:=1) rfl
       have z2:=C6.cell (i:=2) rfl
       have y0:=C6.frozen 0
       have y1:=C6.frozen 1
       have y2:=C6.frozen 2
       have htr:tb≠rb:=by have:=HTB.out;omega
       have hrt:rb≠tb:=fun e=>htr e.symm
       have hlen:(isort rkey L).length=L.length:=isort_length rkey L
       clear hb6 T6 C6 HT5 HC5 HOW5 HVV
       cases V with
       | false =>
         go_wp2
         refine bodyPost_ret (results_r18 (p:=4) (u:=5) rfl rfl (((HC6.out.set 0 _).set 1 _).set 2 _)) rfl ?_
         have h:=readOut_end (A:=SA) (c:=sc) (u0:=.int .i64 0) (u1:=.int .i64 (cntL L:Nat)) (u2:=.slice SA L.length sc) HE.out HB6 hrb' HS6.out (fun hx x hA=>(HNB.out (fun e=>hx (by rw [e];rfl)) x hA).1)
         rw [hlen] at h
         exact h
       | true =>
         have t0':=(HT6.out.set 0 (.int .i64 1)).cell (i:=0) rfl
         have t1':=(HT6.out.set 0 (.int .i64 1)).cell (i:=1) rfl
         have t2':=(HT6.out.set 0 (.int .i64 1)).cell (i:=2) rfl
         have C7:=HC6.out.far (p:=⟨tb,0,none⟩) hrt (.int .i64 1)
         have HC7:=hide C7
         have HS7:Hid (Sl (w6.setCell ⟨tb,0,none⟩ (.int .i64 1)) (w6.setCell ⟨tb,0,none⟩ (.int .i64 1)).heap.size SA (recCs (isort rkey L))):=hide ((HS6.out.far (p:=⟨tb,0,none⟩) (fun hx x hA=>(HNB.out (fun e=>hx (by rw [e];rfl)) x hA).2) _).more (by simp))
         have HB7:=HB6.setCell (p:=⟨tb,0,none⟩) HTB.out.2 (.int .i64 1)
         go_wp2
         refine bodyPost_ret (results_r18 (p:=4) (u:=5) rfl rfl (((HC7.out.set 0 _).set 1 _).set 2 _)) rfl ?_
         have h:=readOut_end (A:=SA) (c:=sc) (u0:=.int .i64 1) (u1:=.int .i64 (cntL L:Nat)) (u2:=.slice SA L.length sc) HE.out HB7 hrb' HS7.out (fun hx x hA=>(HNB.out (fun e=>hx (by rw [e];rfl)) x hA).1)
         rw [hlen] at h
         exact h
 · have heb:(fc != 0)=true:=bne_iff_ne.2 hf
   have HE:Hid (hbatch gs qs=(⟨0,0,[]⟩,fc)):=hide (by rw [HB.out,HBC.out];simp [hf];rfl)
   clear HRE HVA
   go_wp2
   refine bodyPost_ret (results_r18 (p:=4) (u:=5) rfl rfl (((HC0.out.set 0 _).set 1 _).set 2 _)) rfl ?_
   exact readOut_end (recs:=[]) HE.out HB0.out hrb' (Sl.nil _ _ _) (fun h=>absurd rfl h)
end
end
end Go.Proofs.YtpnoofphfomjoaaGreatDoor
