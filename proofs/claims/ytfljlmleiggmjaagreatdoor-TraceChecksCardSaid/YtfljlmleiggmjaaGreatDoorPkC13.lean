/- Decode -/
import Derived.Test.YtfljlmleiggmjaaGreatDoorPkC04
import Derived.Test.YtfljlmleiggmjaaGreatDoorPkC12
set_option maxRecDepth 1000000
set_option maxHeartbeats 8000000
namespace Go.Proofs.YtfljlmleiggmjaaGreatDoor
section
open Go.RowKit
theorem no_bool {w:World} {B:Nat} {A:Option Addr} {rs:List Rg} {x:Addr} {t:TypeId} {a b c:Int} {A1 A2 A3 A4:Option Addr} {n1 n2 n3 n4 c1 c2 c3 c4:Nat} (hx:rgCells rs≠[]) (h:Sl w B A (rgCells rs)) (hA:A=some x)
 (hb:Blk w x.block t #[.int .i64 a,.int .i64 b,.slice A1 n1 c1,.int .i64 c,.slice A2 n2 c2,.slice A3 n3 c3,.slice A4 n4 c4]):False:=by
 cases rs with
 | nil=>exact hx rfl
 | cons r rs =>
   obtain ⟨b',off,hA',hlt,c0,_⟩:=h.rg (k:=0) (r:=r) rfl
   rw [hA'] at hA
   cases hA
   have hcell:=cell_of_row w b' (off+0*3) _ t (0,0) hb
   rw [c0] at hcell
   generalize off+0*3=i at hcell
   match i,hcell with
   | 0,h=>simp at h
   | 1,h=>simp at h
   | 2,h=>simp at h
   | 3,h=>simp at h
   | 4,h=>simp at h
   | 5,h=>simp at h
   | 6,h=>simp at h
   | i+7,h=>simp at h
section
variable (bs:List Int) (A:Option Addr) (c:Nat) (w:World)
variable (hs:Sl w w.heap.size A (byCells bs)) (hcap:bs.length≤c) (hby:By bs) (hmax:bs.length≤300000)
variable (hfix:Fixed w) (hg:1<w.heap.size)
include hs hcap hby hmax hfix hg
theorem decode_any:Calls Tryz.prog 58 #[.slice A bs.length c] w (Decoded (hdecode bs) w):=by
 obtain ⟨w0,hw0⟩:∃ w0,w0=w.alloc (.cells #[.int .i64 0,.int .i64 0,.slice none 0 0,.int .i64 0,.slice none 0 0,.slice none 0 0,.slice none 0 0] 100):=⟨_,rfl⟩
 have hb0:Below w.heap.size w w0:=by rw [hw0];exact bA
 have hz0:w0.heap.size=w.heap.size+1:=by rw [hw0];simp
 have R0:Blk w0 w.heap.size 100 #[.int .i64 0,.int .i64 0,.slice none 0 0,.int .i64 0,.slice none 0 0,.slice none 0 0,.slice none 0 0]:=by rw [hw0];exact Blk.new _ _ _
 have hby':∀ (j:Nat) (x:Int),bs[j]?=some x→0≤x∧x≤255:=fun j x h=>hby x (List.mem_of_getElem? h)
 have CL:=classify_any bs A c w0 ((hs.below hb0).more hb0.size) hcap hby' (by omega) (hfix.below hb0 hg) (Nat.lt_of_lt_of_le hg hb0.size)
 have PA:∀ w1,Below w0.heap.size w0 w1→Calls Tryz.prog 42 #[.slice A bs.length c] w1 (Parsed (hparse bs) w1):=fun w1 h1=>parse_any bs A c w1 (((hs.below hb0).below (h1.mono hb0.size)).more (Nat.le_trans hb0.size h1.size)) hcap hby'
 obtain ⟨cl,hcl⟩:∃ cl,hclass bs=cl:=⟨_,rfl⟩
 rw [hcl] at CL
 obtain ⟨h,n,er,hpe⟩:∃ h n er,hparse bs=(h,n,er):=⟨_,_,_,rfl⟩
 rw [hpe] at PA
 have HD:Hid (hdecode bs=if cl=0 then (rqOf h (bs.drop n.toNat),0) else (rqZero,cl)):=by apply hide;unfold hdecode;rw [hcl,hpe]
 by_cases hc0:cl=0
 · subst hc0
   have DF:=dec_facts hpe hcl
   obtain ⟨rfl,hk,hn0,hn1,hP0,hQ0,hPQ,hPQ1,hlen⟩:=DF
   obtain ⟨op,vs,rs,pts⟩:=h
   dsimp only at hk hP0 hQ0 hPQ hPQ1 hlen
   obtain ⟨N,rfl⟩:=Int.eq_ofNat_of_zero_le hn0
   rw [if_pos rfl,Int.toNat_natCast] at HD
   have hcN:N<c:=by omega
   have hlN:N<bs.length:=by omega
   have hcN':¬ c=N:=by omega
   obtain ⟨b,off,rfl,hbl,_⟩:=hs.by_ (by omega)
   have HCL:=hide CL;have HPA:=hide PA;have HK:=hide hk
   have HPE:=hide hpe;have HCLS:=hide hcl;have HBY:=hide hby;have HS:=hide hs
   clear CL PA hpe hcl hfix hg hby hby' hk hs
   go_enter Tryz.func58,Tryz.ntmps58
   go_wp2_with fail
   rw [← hw0]
   have HW0:=hide hw0;clear hw0
   refine HCL.out.mono ?_
   rintro e w1 ⟨rfl,hb1⟩
   have PA1:=HPA.out w1 hb1
   clear HPA HCL
   have HPA:=hide PA1
   clear PA1
   go_wp2_with fail
   refine HPA.out.mono ?_
   rintro e w2 ⟨HA,hc,rfl,hsl,hb2⟩
   clear HPA
   have R2:=(R0.step hb1).step hb2
   have HB2:=bl_step (bl_step hb0 hb1) hb2
   dsimp only at hsl ⊢
   have hbl2:b<w2.heap.size:=by have:=HB2.size;omega
   obtain ⟨w3,hw3⟩:∃ w3,w3=((w2.alloc (.cells #[.int .i64 op,.int .i64 vs,.slice HA rs.length hc,.int .i64 pts] 24)).alloc (.cells #[.int .i64 op,.int .i64 vs,.slice HA rs.length hc,.int .i64 pts,.slice none 0 0,.slice none 0 0,.slice none 0 0] 100)).alloc (.cells #[.slice (some ⟨b,off+N,none⟩) (bs.length - N) (c - N)] 153):=⟨_,rfl⟩
   have hb3:Below w2.heap.size w2 w3:=by rw [hw3];exact bl_alloc (bl_alloc (bA) _) _
   have hz3:w3.heap.size=w2.heap.size+3:=by rw [hw3];simp
   have H3:Blk w3 w2.heap.size 24 #[.int .i64 op,.int .i64 vs,.slice HA rs.length hc,.int .i64 pts]:=by rw [hw3];exact ((Blk.new _ _ _).alloc _).alloc _
   have Q3:Blk w3 (w2.heap.size+1) 100 #[.int .i64 op,.int .i64 vs,.slice HA rs.length hc,.int .i64 pts,.slice none 0 0,.slice none 0 0,.slice none 0 0]:=by rw [hw3];exact (Blk.new2 _ _ _ _).alloc _
   have G3:Blk w3 (w2.heap.size+1+1) 153 #[.slice (some ⟨b,off+N,none⟩) (bs.length - N) (c - N)]:=by
    rw [hw3]
    have h:=Blk.new ((w2.alloc (.cells #[.int .i64 op,.int .i64 vs,.slice HA rs.length hc,.int .i64 pts] 24)).alloc (.cells #[.int .i64 op,.int .i64 vs,.slice HA rs.length hc,.int .i64 pts,.slice none 0 0,.slice none 0 0,.slice none 0 0] 100)) 153 #[.slice (some ⟨b,off+N,none⟩) (bs.length - N) (c - N)]
    simpa using h
   have HB3:=bl_step HB2 hb3
   go_wp2
   rw [← hw3]
   have HW3:=hide hw3;clear hw3
   obtain ⟨q,hq⟩:∃ q,q=w2.heap.size+1:=⟨_,rfl⟩
   rw [← hq] at Q3 G3 ⊢
   obtain ⟨g,hgq⟩:∃ g,g=q+1:=⟨_,rfl⟩
   rw [← hgq] at G3 ⊢
   obtain ⟨C,hC⟩:∃ C,C=w3.heap.size:=⟨_,rfl⟩
   obtain ⟨pl,hpl⟩:∃ pl,pl=bs.drop N:=⟨_,rfl⟩
   have hpll:pl.length=bs.length - N:=by rw [hpl,List.length_drop]
   have hBP:∀ k,k<w.heap.size→PD C q g k:=fun k hk=>by have:=HB2.size;unfold PD;omega
   have rs3:RS w3 (PD C q g) w.heap.size g pl:=by
    refine ⟨some ⟨b,off+N,none⟩,c - N,by rw [hpll];exact G3,by unfold PD;omega,by rw [hpll];omega,?_⟩
    rcases HS.out with h0 | ⟨b1,off1,hA1,hlt1,hc1⟩
    · rw [List.eq_nil_of_length_eq_zero (show bs.length=0 by have:=congrArg List.length h0;simpa [byCells] using this)] at hlN;simp at hlN
    · injection hA1 with hA1
      injection hA1 with e1 e2
      subst e1 e2
      refine Sl.mk hlt1 fun j u hu=>?_
      have:=hc1 (N+j) u (by rw [hpl] at hu;simpa [byCells,Nat.add_comm] using hu)
      rw [← Nat.add_assoc] at this
      exact (HB3.cell (p:=⟨b,_,none⟩) hlt1).trans this
   have hqe:w2.heap.size+1≤q∧q≤w2.heap.size+1:=by omega
   have hge:q+1≤g∧g≤q+1:=by omega
   have hCe:w3.heap.size≤C∧C≤w3.heap.size:=by omega
   clear hq hgq hC
   have HR3:=hide rs3;have HBP:=hide hBP;have HPL:=hide hpll;have HPLD:=hide hpl
   have HSL:=hide hsl
   have hcb:=cnt_bd HK.out
   obtain ⟨hvs0,hvs1,hrl64,hcP,hcQ⟩:=hcb
   clear rs3 hBP hpll hpl hsl
   go_loopw [36] (fun i wr=>∃ (k:Nat) (gs:List Gr) (v:Value),k≤rs.length∧i=.int .i64 k∧KeepP (PD C q g) w3 wr∧Blk wr q 100 #[.int .i64 op,.int .i64 vs,.slice HA rs.length hc,.int .i64 pts,v,.slice none 0 0,.slice none 0 0] ∧
    RS wr (PD C q g) w.heap.size g (pl.drop (16*nSum (rs.take k)))∧QI wr C gs v∧gs.map gdOf=regsOf (rs.take k) pl∧gs.length=k)
    (fun i _=>rs.length - (intOf i).toNat)
   case atStart=>exact ⟨0,[],.slice none 0 0,by omega,rfl,KeepP.refl _ _,Q3,by simpa [nSum] using HR3.out,QI.nil _ _,rfl,rfl⟩
   case round =>
    obtain ⟨k,gs,v,hk,rfl,hkp,hqb,hrd,hqi,hgd,hgl⟩:=hrel
    have HGD:=hide hgd;clear hgd
    have HQI:=hide hqi;clear hqi
    have HRD:=hide hrd;clear hrd
    by_cases hlt:k<rs.length
    · obtain ⟨r,hr⟩:∃ r,rs[k]?=some r:=⟨_,List.getElem?_eq_getElem hlt⟩
      obtain ⟨hb_,hoff,rfl,hhb,d0,d1,d2⟩:=HSL.out.rg hr
      have hPh:PD C q g hb_:=by unfold PD;omega
      have c0:=((hkp.cell hPh _).trans (hb3.cell (p:=⟨hb_,_,none⟩) hhb)).trans d0
      have c1:=((hkp.cell hPh _).trans (hb3.cell (p:=⟨hb_,_,none⟩) hhb)).trans d1
      have c2:=((hkp.cell hPh _).trans (hb3.cell (p:=⟨hb_,_,none⟩) hhb)).trans d2
      clear d0 d1 d2
      obtain ⟨wx,hwx⟩:∃ wx,wx=wr.alloc (.cells #[.bool r.d,.int .i64 r.v,.slice r.A r.n r.c] 61):=⟨_,rfl⟩
      have hbx:Below wr.heap.size wr wx:=by rw [hwx];exact bA
      have X0:Blk wx wr.heap.size 61 #[.bool r.d,.int .i64 r.v,.slice r.A r.n r.c]:=by rw [hwx];exact Blk.new _ _ _
      have hzx:wx.heap.size=wr.heap.size+1:=by rw [hwx];simp
      have hCr:C≤wr.heap.size:=Nat.le_trans hCe.2 hkp.size
      have HSN:=hide (nSum_snoc rs k r hr)
      have HRG:=hide (regsOf_snoc rs pl k r hr)
      have HNL:=hide (nSum_take_le rs (k+1))
      clear hr
      have x0:=X0.cell (i:=0) rfl
      have x1:=X0.cell (i:=1) rfl
      have x2:=X0.cell (i:=2) rfl
      go_wp2_with fail
      rw [← hwx]
      have HWX:=hide hwx;clear hwx
      refine (size_any r.d r.v r.A r.n r.c wx).mono ?_
      rintro e w5 ⟨rfl,hb5⟩
      rw [← sizeN_cast]
      have hn64:=sizeN_le r.v
      have hsn:=HSN.out
      have hnl:=HNL.out
      have hrd5:RS w5 (fun b=>b<w5.heap.size∧b≠g) w.heap.size g (pl.drop (16*nSum (rs.take k))):=by
       refine ((HRD.out.move fun b' hb'=>?_).chg (fun h=>h.2 rfl))
       have hl:b'<wr.heap.size:=by
        rcases hb' with h | h
        · have:=HB3.size;have:=hkp.size;omega
        · have:=hqb.lt;omega
       exact ((hb5.mono hbx.size).block b' hl).trans (hbx.block b' hl)
      have TK:=takePt_any (fun b=>b<w5.heap.size∧b≠g) w.heap.size g w5 (fun k hk=>⟨by have:=HB3.size;have:=hkp.size;have:=hbx.size;have:=hb5.size;omega,by have:=HB2.size;omega⟩)
       (pl.drop (16*nSum (rs.take k))) (sizeN r.v) (by rw [List.length_drop,HPL.out];omega) (by rw [List.length_drop,HPL.out];omega) (by rw [HPLD.out];exact (HBY.out.drop _).drop _) (fun k hk=>hk.1) hrd5
      have HTK:=hide TK
      clear TK hrd5 x0 x1 x2
      go_wp2_with fail
      refine HTK.out.mono ?_
      rintro e w6 ⟨PAd,rfl,k6,r6,s6,f6⟩
      have h56:=hb5.size
      have hcb5:wr.heap.size<w5.heap.size:=by omega
      have hql:=hqb.lt
      have hrd6:=HRD.out.lt
      have hsz6:=k6.size
      have hch:∀ b',b'<wr.heap.size→b'≠g→w6.heap[b']?=wr.heap[b']?:=fun b' h1 h2=>(k6.block b' ⟨by omega,h2⟩).trans (((hb5.mono hbx.size).block b' h1).trans (hbx.block b' h1))
      have X6:Blk w6 wr.heap.size 61 #[.bool r.d,.int .i64 r.v,.slice r.A r.n r.c]:=(X0.step hb5).kept k6 ⟨hcb5,by omega⟩
      have X7:Blk (w6.setCell ⟨wr.heap.size,2,none⟩ (.slice PAd (sizeN r.v) (sizeN r.v))) wr.heap.size 61 #[.bool r.d,.int .i64 r.v,.slice PAd (sizeN r.v) (sizeN r.v)]:=X6.set 2 _
      have Q6:Blk w6 q 100 #[.int .i64 op,.int .i64 vs,.slice (some ⟨hb_,hoff,none⟩) rs.length hc,.int .i64 pts,v,.slice none 0 0,.slice none 0 0]:=(hch q hql (by omega)).trans hqb
      have Q7:=Q6.far (p:=⟨wr.heap.size,2,none⟩) (by simp;omega) (.slice PAd (sizeN r.v) (sizeN r.v))
      have hch7:∀ b',b'<wr.heap.size→b'≠g→(w6.setCell ⟨wr.heap.size,2,none⟩ (.slice PAd (sizeN r.v) (sizeN r.v))).heap[b']?=wr.heap[b']?:=fun b' h1 h2=>(Below.heap_setCell w6 ⟨wr.heap.size,2,none⟩ _ b' (by simp;omega)).trans (hch b' h1 h2)
      have hz7:(w6.setCell ⟨wr.heap.size,2,none⟩ (.slice PAd (sizeN r.v) (sizeN r.v))).heap.size=w6.heap.size:=World.size_setCell _ _ _
      have QI7:QI (w6.setCell ⟨wr.heap.size,2,none⟩ (.slice PAd (sizeN r.v) (sizeN r.v))) C gs v:=HQI.out.move (by omega) fun b' h1 h2=>hch7 b' h2 (by omega)
      have s7:=s6.far (p:=⟨wr.heap.size,2,none⟩) (fun _ x hx=>by have:=(f6 x hx).1;simp;omega) (.slice PAd (sizeN r.v) (sizeN r.v))
      have r7:RS (w6.setCell ⟨wr.heap.size,2,none⟩ (.slice PAd (sizeN r.v) (sizeN r.v))) (PD C q g) w.heap.size g ((pl.drop (16*nSum (rs.take k))).drop (16*sizeN r.v)) :=
       (r6.chg (R:=PD C q g) (fun h=>h.2.2 rfl)).far (by omega) (by unfold PD;omega) HBP.out 2 _
      have y2:=X6.cell (i:=2) rfl
      have fz2:=X6.frozen 2
      have hnew:∀ x,PAd=some x→C≤x.block∧v.ownBlock≠some x.block:=fun x hx=>by
       have h1:=(f6 x hx).1
       refine ⟨by omega,fun e=>?_⟩
       have:=own_lt HQI.out.1 e
       omega
      have HNEW:=hide hnew;have HCH7:=hide hch7;have HS7:=hide s7;have HR7:=hide r7;have HQI7:=hide QI7
      have hown7:=QI7.1
      rw [hgl] at hown7
      clear hnew hch hch7 s7 s6 r7 r6 QI7 f6 HTK
      have kxx:(16*nSum (rs.take k))+16*sizeN r.v=16*nSum (rs.take (k+1)):=by omega
      have HKXX:=hide kxx
      clear kxx
      obtain ⟨w7,hw7⟩:∃ w7,w7=w6.setCell ⟨wr.heap.size,2,none⟩ (.slice PAd (sizeN r.v) (sizeN r.v)):=⟨_,rfl⟩
      rw [← hw7] at X7 Q7 hz7 HCH7 HS7 HR7 HQI7 hown7
      have hw7s:=hw7.symm
      have y0:=X7.cell (i:=0) rfl
      have y1:=X7.cell (i:=1) rfl
      have y2':=X7.cell (i:=2) rfl
      have q4:=Q7.cell (i:=4) rfl
      obtain ⟨i0,hi,hi0,hi1,hi2⟩:=info_parts rg_info
      have hz7':w6.heap.size≤w7.heap.size∧w7.heap.size≤w6.heap.size:=by omega
      have k17:KeepP (PD C q g) wr w7:=by
       have k1:KeepP (PD C q g) wr w6:=(KeepP.of_below hbx (fun k hk=>by unfold PD at hk;omega)).trans ((KeepP.of_below hb5 (fun k hk=>by unfold PD at hk;omega)).trans (k6.mono fun k hk=>by unfold PD at hk;omega))
       rw [hw7]
       exact k1.trans (KeepP.set (by unfold PD;omega) 2 _ _)
      have K17:=hide k17
      clear hw7 hz7 k17
      have hC7:C≤w7.heap.size:=by omega
      go_wp2_with (at_builtin;refine wpList_append_lies _ rfl (.tmp 47) (.tmp 49) 22 rfl C 61 i0 (.agg #[.bool false,.int .i64 0,.slice none 0 0]) 3 40 Tryz.underlying22 hi hi0 hi1 hi2 rfl (by decide) v k _ rfl (own_step hown7 (bA)) ⟨w7.heap.size,0,none⟩ 1 1 [.bool r.d,.int .i64 r.v,.slice PAd (sizeN r.v) (sizeN r.v)] rfl rfl ?a1 ?a2 ?a3 ?a4 ?a5 ?a6 (w7.heap.size+1) ?a7 ?_)
      case a1=>exact blk_cells (Blk.new _ _ _)
      case a2=>simp [Value.oneCell']
      case a3=>omega
      case a4=>unfold maxLen;omega
      case a5=>omega
      case a6=>simp;omega
      case a7=>simp
      intro g' cap w8 hown8 hgrow hat hlt8
      have hbA:Below w7.heap.size w7 (w7.alloc (.cells #[.bool r.d,.int .i64 r.v,.slice PAd (sizeN r.v) (sizeN r.v)] 61)):=bA
      have hQI8:QI w8 C (gs++[(⟨r.d,r.v,PAd,sizeN r.v,sizeN r.v⟩,ptsOf (pl.drop (16*nSum (rs.take k))) (sizeN r.v))]) (.slice (some ⟨g',0,none⟩) (k+1) cap) :=
       qi_push HQI7.out hbA hown8 (by simp [hgl]) (by simp [rgCells,Rg.cells]) hgrow (by simpa using hat) ⟨(ptsOf_length _ _).symm,HS7.out.more hz7'.1,fun _=>HNEW.out⟩
      have hgb:∀ b',b'<C→(w8.heap[b']?=w7.heap[b']?):=fun b' hb'=>by
       refine (hgrow.block b' (by simp;omega) (fun e=>?_)).trans (hbA.block b' (by omega))
       have:=own_base hown7 e.symm
       omega
      have Q8:Blk w8 q 100 #[.int .i64 op,.int .i64 vs,.slice (some ⟨hb_,hoff,none⟩) rs.length hc,.int .i64 pts,v,.slice none 0 0,.slice none 0 0]:=(hgb q (by omega)).trans Q7
      have R8:RS w8 (PD C q g) w.heap.size g (pl.drop (16*nSum (rs.take (k+1)))):=by
       rw [← HKXX.out,← List.drop_drop]
       exact HR7.out.move fun b' hb'=>hgb b' (by have:=HB2.size;omega)
      have hz8:w7.heap.size≤w8.heap.size:=Nat.le_trans hbA.size hgrow.size
      have K8:KeepP (PD C q g) wr w8 :=
       K17.out.trans ⟨hgrow.os.trans hbA.os,hgrow.tape.trans hbA.tape,hgrow.output.trans hbA.output,hz8,fun b' hb'=>hgb b' hb'.1⟩
      have HQI8:=hide hQI8;have HR8:=hide R8;have HK8:=hide K8
      have p4:=Q8.cell (i:=4) rfl
      have fz4:=Q8.frozen 4
      clear hQI8 R8 K8 hgb hown8 hgrow q4 y0 y1 y2 y2' hw7s
      go_wp2
      go_roundw
      case rel =>
       refine ⟨k+1,_,_,by omega,by go_num,hkp.trans (HK8.out.trans (KeepP.set (by unfold PD;omega) 4 _ _)),Q8.set 4 _,HR8.out.far (by omega) (by unfold PD;omega) HBP.out 4 _,
        HQI8.out.move (by simp [World.size_setCell]) (fun b' h1 h2=>Below.heap_setCell w8 ⟨q,4,none⟩ _ b' (by simp;omega)),?_,by simp [hgl]⟩
       rw [List.map_append,HGD.out,HRG.out];rfl
      case measure=>simp [intOf];omega
    · obtain rfl:rs.length=k:=by omega
      rw [List.take_length] at HRD HGD
      obtain ⟨np,hnp⟩:=Int.eq_ofNat_of_zero_le hP0
      obtain ⟨mq,hmq⟩:=Int.eq_ofNat_of_zero_le hQ0
      rw [hnp] at hlen hPQ hcP
      rw [hmq] at hlen hPQ hcQ
      have CN:=counts_any op vs pts wr hvs0 hvs1 HA rs.length hc
      rw [hnp,hmq] at CN
      have HCN:=hide CN
      have HPQ:=hide hPQ
      have Hr:=H3.kept hkp (by unfold PD;omega)
      have Rr:=(R2.step hb3).kept hkp (by have:=HB2.size;unfold PD;omega)
      have h0:=Hr.cell (i:=0) rfl
      have h1:=Hr.cell (i:=1) rfl
      have h2:=Hr.cell (i:=2) rfl
      have h3:=Hr.cell (i:=3) rfl
      have HNP:=hide hnp;have HMQ:=hide hmq
      have hql:=hqb.lt
      have hgl':=HRD.out.lt
      have hkz:=hkp.size
      have hB2z:=HB2.size
      clear CN hPQ hnp hmq hP0 hQ0 hPQ1
      go_wp2_with fail
      refine HCN.out.mono ?_
      rintro e w10 ⟨rfl,hb10⟩
      have hz10:=hb10.size
      have hrd10:RS w10 (fun b=>b<w10.heap.size∧b≠g) w.heap.size g (pl.drop (16*nSum rs)) :=
       (HRD.out.move fun b' hb'=>hb10.block b' (by omega)).chg (fun h=>h.2 rfl)
      have TK:=takePt_any (fun b=>b<w10.heap.size∧b≠g) w.heap.size g w10 (fun k hk=>⟨by omega,by omega⟩)
       (pl.drop (16*nSum rs)) np (by rw [List.length_drop,HPL.out];omega) (by rw [List.length_drop,HPL.out];omega) (by rw [HPLD.out];exact (HBY.out.drop _).drop _) (fun k hk=>hk.1) hrd10
      have HTK:=hide TK
      clear TK hrd10 h0 h1 h2 h3
      go_wp2_with fail
      refine HTK.out.mono ?_
      rintro e w11 ⟨A1,rfl,k11,r11,s11,f11⟩
      have hz11:=k11.size
      have Q11:=(hqb.step hb10).kept k11 ⟨by omega,by omega⟩
      have R11:=(Rr.step hb10).kept k11 ⟨by omega,by omega⟩
      have q5:=Q11.cell (i:=5) rfl
      have fz5:=Q11.frozen 5
      obtain ⟨w12,hw12⟩:∃ w12,w12=w11.setCell ⟨q,5,none⟩ (.slice A1 np np):=⟨_,rfl⟩
      have Q12:Blk w12 q 100 #[.int .i64 op,.int .i64 vs,.slice HA rs.length hc,.int .i64 pts,v,.slice A1 np np,.slice none 0 0]:=by rw [hw12];exact Q11.set 5 _
      have R12:=R11.far (p:=⟨q,5,none⟩) (by simp;omega) (.slice A1 np np)
      rw [← hw12] at R12
      have hz12:w11.heap.size≤w12.heap.size∧w12.heap.size≤w11.heap.size:=by rw [hw12,World.size_setCell];omega
      have r12:RS w12 (fun b=>b<w12.heap.size∧b≠g) w.heap.size g ((pl.drop (16*nSum rs)).drop (16*np)):=by
       have:=((r11.chg (R:=PD C q g) (fun h=>h.2.2 rfl)).far (b:=q) (by omega) (by unfold PD;omega) HBP.out 5 (.slice A1 np np)).chg (R:=fun b=>b<w12.heap.size∧b≠g) (fun h=>h.2 rfl)
       rw [hw12] at this ⊢;exact this
      have TQ:=takeQu_any (fun b=>b<w12.heap.size∧b≠g) w.heap.size g w12 (fun k hk=>⟨by omega,by omega⟩)
       ((pl.drop (16*nSum rs)).drop (16*np)) mq (by rw [List.length_drop,List.length_drop,HPL.out];omega) (by rw [List.length_drop,List.length_drop,HPL.out];omega) (by rw [HPLD.out];exact ((HBY.out.drop _).drop _).drop _) (fun k hk=>hk.1) r12
      have HTQ:=hide TQ
      have e12:∀ b',b'≠q→w12.heap[b']?=w11.heap[b']?:=fun b' hb'=>by rw [hw12];exact Below.heap_setCell w11 ⟨q,5,none⟩ _ b' hb'
      have E12:=hide e12
      have K12:KeepP (PD C q g) w11 w12:=by rw [hw12];exact KeepP.set (by unfold PD;omega) 5 _ _
      have HK12:=hide K12
      have hw12s:=hw12.symm
      clear TQ r12 hw12 e12 K12
      go_wp2_with fail
      refine HTQ.out.mono ?_
      rintro e w13 ⟨A2,rfl,k13,r13,s13,f13⟩
      have hz13:=k13.size
      have Q13:=Q12.kept k13 ⟨by omega,by omega⟩
      have R13:=R12.kept k13 ⟨by omega,by omega⟩
      have q6:=Q13.cell (i:=6) rfl
      have fz6:=Q13.frozen 6
      obtain ⟨w14,hw14⟩:∃ w14,w14=w13.setCell ⟨q,6,none⟩ (.slice A2 mq mq):=⟨_,rfl⟩
      have Q14:Blk w14 q 100 #[.int .i64 op,.int .i64 vs,.slice HA rs.length hc,.int .i64 pts,v,.slice A1 np np,.slice A2 mq mq]:=by rw [hw14];exact Q13.set 6 _
      have R14:=R13.far (p:=⟨q,6,none⟩) (by simp;omega) (.slice A2 mq mq)
      rw [← hw14] at R14
      have hz14:w13.heap.size≤w14.heap.size∧w14.heap.size≤w13.heap.size:=by rw [hw14,World.size_setCell];omega
      have E14:Hid (∀ b',b'≠q→w14.heap[b']?=w13.heap[b']?):=hide fun b' hb'=>by rw [hw14];exact Below.heap_setCell w13 ⟨q,6,none⟩ _ b' hb'
      have K14:Hid (KeepP (PD C q g) w13 w14):=by apply hide;rw [hw14];exact KeepP.set (by unfold PD;omega) 6 _ _
      have hw14s:=hw14.symm
      clear hw14 hw12s
      have q0:=Q14.cell (i:=0) rfl
      have q1:=Q14.cell (i:=1) rfl
      have q2:=Q14.cell (i:=2) rfl
      have q3:=Q14.cell (i:=3) rfl
      have q4:=Q14.cell (i:=4) rfl
      have q5':=Q14.cell (i:=5) rfl
      have q6':=Q14.cell (i:=6) rfl
      have r0:=R14.cell (i:=0) rfl
      have r1:=R14.cell (i:=1) rfl
      have r2:=R14.cell (i:=2) rfl
      have r3:=R14.cell (i:=3) rfl
      have r4:=R14.cell (i:=4) rfl
      have r5:=R14.cell (i:=5) rfl
      have r6:=R14.cell (i:=6) rfl
      have g0:=R14.frozen 0
      have g1:=R14.frozen 1
      have g2:=R14.frozen 2
      have g3:=R14.frozen 3
      have g4:=R14.frozen 4
      have g5:=R14.frozen 5
      have g6:=R14.frozen 6
      clear q5
      obtain ⟨GA,gc,rfl,_⟩:=own_slice HQI.out.1
      go_wp2
      clear q0 q1 q2 q3 q4 q5' q6' q6 r0 r1 r2 r3 r4 r5 r6 g0 g1 g2 g3 g4 g5 g6
      obtain ⟨e0,e1,e2,e3,e4,e5,e6⟩:=set7_cells R14 (.int .i64 op) (.int .i64 vs) (.slice HA rs.length hc) (.int .i64 pts) (.slice GA rs.length gc) (.slice A1 np np) (.slice A2 mq mq)
      rw [HD.out]
      refine bodyPost_ret (v:=.tuple #[.agg #[.int .i64 op,.int .i64 vs,.slice HA rs.length hc,.int .i64 pts,.slice GA rs.length gc,.slice A1 np np,.slice A2 mq mq],.int .i64 0]) (by simp [results,Tryz.results58,go_sem,e0,e1,e2,e3,e4,e5,e6]) rfl ?_
      clear e0 e1 e2 e3 e4 e5 e6
      obtain ⟨W,hW⟩:∃ W,W=set7 w14 w.heap.size (.int .i64 op) (.int .i64 vs) (.slice HA rs.length hc) (.int .i64 pts) (.slice GA rs.length gc) (.slice A1 np np) (.slice A2 mq mq):=⟨_,rfl⟩
      have hWz:w14.heap.size≤W.heap.size:=by rw [hW,set7_size];exact Nat.le_refl _
      have eW:∀ b',b'≠w.heap.size→W.heap[b']?=w14.heap[b']?:=fun b' hb'=>by rw [hW];exact set7_far w14 _ _ _ _ _ _ _ _ b' hb'
      have hB14:Below w.heap.size w w14:=(((((HB3.trans (hkp.below HBP.out)).trans (hb10.mono (by omega))).trans (k11.below (fun k hk=>⟨by omega,by omega⟩))).trans (HK12.out.below HBP.out)).trans (k13.below (fun k hk=>⟨by omega,by omega⟩))).trans (K14.out.below HBP.out)
      have hBW:Below w.heap.size w W:=by rw [hW];exact set7_below hB14 (Nat.le_refl _) _ _ _ _ _ _ _
      have e13:∀ b',b'<w13.heap.size→b'≠q→b'≠w.heap.size→W.heap[b']?=w13.heap[b']?:=fun b' h1 h2 h3=>(eW b' h3).trans (E14.out b' h2)
      have e11:∀ b',b'<w11.heap.size→b'≠q→b'≠g→b'≠w.heap.size→W.heap[b']?=w11.heap[b']?:=fun b' h1 h2 h3 h4=>(e13 b' (by omega) h2 h4).trans ((k13.block b' ⟨by omega,h3⟩).trans (E12.out b' h2))
      have er:∀ b',b'<wr.heap.size→b'≠q→b'≠g→b'≠w.heap.size→W.heap[b']?=wr.heap[b']?:=fun b' h1 h2 h3 h4=>(e11 b' (by omega) h2 h3 h4).trans ((k11.block b' ⟨by omega,h3⟩).trans (hb10.block b' h1))
      have QIW:QI W C gs (.slice GA gs.length gc):=HQI.out.move (by omega) fun b' h1 h2=>er b' h2 (by omega) (by omega) (by omega)
      have hslW:Sl W w2.heap.size HA (rgCells rs):=HSL.out.at_ fun b' h1 hx x hA hxb=>by
       refine (er b' (by omega) (by omega) (by omega) ?_).trans ((hkp.block b' (by unfold PD;omega)).trans (hb3.block b' h1))
       subst hxb
       intro e
       exact no_bool hx HSL.out hA (by rw [e];exact R2)
      have s11':Sl W w11.heap.size A1 (ptCs (ptsOf (pl.drop (16*nSum rs)) np)):=s11.at_ fun b' h1 hx x hA hxb=>by
       have:=f11 x hA
       subst hxb
       exact e11 _ h1 (by omega) (by omega) (by omega)
      have s13':Sl W w13.heap.size A2 (quCs (qusOf ((pl.drop (16*nSum rs)).drop (16*np)) mq)):=s13.at_ fun b' h1 hx x hA hxb=>by
       have:=f13 x hA
       subst hxb
       exact e13 _ h1 (by omega) (by omega)
      have hqq:qusOf ((pl.drop (16*nSum rs)).drop (16*np)) mq=qusOf (pl.drop (16*nSum rs)) mq:=by
       rcases HPQ.out with h | h
       · rw [show np=0 by omega];simp
       · rw [show mq=0 by omega];rfl
      rw [hqq] at s13'
      show Decoded (rqOf ⟨op,vs,rs,pts⟩ (bs.drop N),0) w _ (set7 w14 w.heap.size _ _ _ _ _ _ _)
      rw [← hW]
      clear hW
      have hps:(rqOf ⟨op,vs,rs,pts⟩ (bs.drop N)).ps=ptsOf (pl.drop (16*nSum rs)) np:=by
       show ptsOf _ (cntP op vs).toNat=_
       rw [HNP.out,← HPLD.out];rfl
      have hqs:(rqOf ⟨op,vs,rs,pts⟩ (bs.drop N)).qs=qusOf (pl.drop (16*nSum rs)) mq:=by
       show qusOf _ (cntQ op pts).toNat=_
       rw [HMQ.out,← HPLD.out];rfl
      refine ⟨rs,HA,hc,gs,GA,gc,A1,np,A2,mq,?_,hBW,?_,by rw [hps,ptsOf_length];exact Nat.le_refl _⟩
      · unfold rqVal
        dsimp only
        rw [hps,hqs,ptsOf_length,qusOf_length,hgl]
        rfl
      · refine ⟨hslW.more (by omega),rfl,Sl.of_own QIW.1,QIW.gsOk,?_,?_,?_⟩
        · rw [HGD.out,HPLD.out];rfl
        · dsimp only;rw [hps];exact s11'.more (by omega)
        · dsimp only;rw [hqs];exact s13'.more (by omega)
 · have hne:(cl != 0)=true:=by simpa using hc0
   rw [if_neg hc0] at HD
   have HCL:=hide CL;clear CL PA hpe hcl hc0 hfix hg hby hby' hs
   go_enter Tryz.func58,Tryz.ntmps58
   go_wp2_with fail
   rw [← hw0]
   have HW0:=hide hw0;clear hw0
   refine HCL.out.mono ?_
   rintro e w1 ⟨rfl,hb1⟩
   have R1:=R0.step hb1
   have r0:=R1.cell (i:=0) rfl
   have r1:=R1.cell (i:=1) rfl
   have r2:=R1.cell (i:=2) rfl
   have r3:=R1.cell (i:=3) rfl
   have r4:=R1.cell (i:=4) rfl
   have r5:=R1.cell (i:=5) rfl
   have r6:=R1.cell (i:=6) rfl
   have f0:=R1.frozen 0
   have f1:=R1.frozen 1
   have f2:=R1.frozen 2
   have f3:=R1.frozen 3
   have f4:=R1.frozen 4
   have f5:=R1.frozen 5
   have f6:=R1.frozen 6
   go_wp2
   obtain ⟨e0,e1,e2,e3,e4,e5,e6⟩:=set7_cells R1 (.int .i64 0) (.int .i64 0) (.slice none 0 0) (.int .i64 0) (.slice none 0 0) (.slice none 0 0) (.slice none 0 0)
   rw [HD.out]
   exact bodyPost_ret (v:=.tuple #[.agg #[.int .i64 0,.int .i64 0,.slice none 0 0,.int .i64 0,.slice none 0 0,.slice none 0 0,.slice none 0 0],.int .i64 cl]) (by simp [results,Tryz.results58,go_sem,e0,e1,e2,e3,e4,e5,e6]) rfl (decoded_zero (set7_below (bl_step hb0 hb1) (Nat.le_refl _) _ _ _ _ _ _ _))
end
end
end Go.Proofs.YtfljlmleiggmjaaGreatDoor
