/- RefClassify RefDecode -/
import Derived.Deep.RegionLaw
import Derived.Test.YtfljlmleiggmjaaGreatDoorPkC13
set_option maxRecDepth 1000000
set_option maxHeartbeats 8000000
namespace Go.Proofs.YtfljlmleiggmjaaGreatDoor
section
open Go.RowKit
section
variable (bs:List Int) (A:Option Addr) (c:Nat) (w:World)
variable (hs:Sl w w.heap.size A (byCells bs)) (hby:∀ (j:Nat) (x:Int),bs[j]?=some x→0≤x∧x≤255)
include hs hby
theorem rclassify_any :
 Calls Tryz.prog 18 #[.slice A bs.length c] w fun e w'=>e=.returned (.int .i64 (hclass bs))∧Below w.heap.size w w':=by
 have hpb:=hpay_bd (hparse bs).1.op (hparse bs).1.vs (hparse bs).1.rs (hparse bs).1.pts
 have hnb:=hparse_n bs
 have hok:=hparse_ok bs
 obtain ⟨v,hv⟩:∃ v,v=hclass bs:=⟨_,rfl⟩
 unfold hclass at hv
 rw [show hclass bs=v from by rw [hv];rfl]
 have P:=rparse_any bs A c w hs hby
 revert P hv hok hpb hnb
 generalize hparse bs=r
 obtain ⟨⟨op,vs,rs,pts⟩,n,er⟩:=r
 intro hpb hnb hok hv P
 simp only at hpb hnb hv
 have hok':er=0→hcheck op vs rs pts=0:=hok
 have HOK:=hide hok';clear hok hok'
 have HV:=hide hv;clear hv
 have HP:=hide P;clear P
 have HPB:=hide hpb;clear hpb
 have HNB:=hide hnb;clear hnb
 go_enter Tryz.func18,Tryz.ntmps18
 go_wp2_with fail
 refine HP.out.mono ?_
 rintro e w1 ⟨A1,c1,rfl,hsl,hb1⟩
 simp only at hsl
 by_cases he:er=0
 · subst he
   go_wp2_with fail
   refine (rpayload_any op vs pts rs A1 c1 _ ((hsl.below (bA)).more (by simp)) (HOK.out trivial)).mono ?_
   rintro e w2 ⟨rfl,hb2⟩
   obtain ⟨hpb1,hpb2⟩:=HPB.out
   obtain ⟨hnb1,hnb2⟩:=HNB.out
   by_cases hq:(bs.length:Int)=n+hpay op vs rs pts
   · have hq':((bs.length:Int) != n+hpay op vs rs pts)=false:=by rw [bne_eq_false_iff_eq];exact hq
     have HQ:=hide hq;clear hq
     go_wp2
     go_ret
     exact ⟨ret_int (by rw [HV.out,if_pos trivial,if_pos HQ.out]),bl_step (bl_alloc hb1 _) hb2⟩
   · have hq':((bs.length:Int) != n+hpay op vs rs pts)=true:=by rw [bne_iff_ne];exact hq
     have HQ:=hide hq;clear hq
     go_wp2
     go_ret
     exact ⟨ret_int (by rw [HV.out,if_pos trivial,if_neg HQ.out]),bl_step (bl_alloc hb1 _) hb2⟩
 · have he':(er == 0)=false:=by simpa using he
   have HE:=hide he;clear he
   go_wp2
   go_ret
   exact ⟨ret_int (by rw [HV.out,if_neg HE.out]),bl_alloc hb1 _⟩
end
end
section
open Go.RowKit
theorem eight_drop (bs:List Int) (a k:Nat):eight (bs.drop a) k=eight bs (a+k):=by unfold eight;rw [List.drop_drop]
theorem ptsOff_16 (bs:List Int) (a n:Nat):ptsOff bs a 16 n=ptsOf (bs.drop a) n:=by
 unfold ptsOff ptsOf
 congr 1
 funext i
 unfold ptOff ptRd
 rw [eight_drop,eight_drop,show a+i*16=a+16*i by omega,show a+16*i+8=a+(16*i+8) by omega]
theorem quAt_off (bs:List Int) (a i:Nat):quAt (bs.drop a) i=(ptOff bs a 24 i,le (eight bs (a+24*i+16))):=by
 unfold quAt ptOff
 rw [eight_drop,eight_drop,eight_drop,show a+i*24=a+24*i by omega,show a+24*i+8=a+(24*i+8) by omega,show a+24*i+16=a+(24*i+16) by omega]
theorem ptsOff_get (bs:List Int) (a step:Nat) {n i:Nat} (h:i<n):(ptsOff bs a step n)[i]?=some (ptOff bs a step i):=by simp [ptsOff,h]
theorem quCs_snoc (qs:List ((Int × Int) × Int)) (r:(Int × Int) × Int):quCs (qs++[r])=quCs qs++[.int .i64 r.1.1,.int .i64 r.1.2,.int .u64 r.2]:=by simp [quCs]
theorem Q_moved {w w':World} {g:Nat} {t:TypeId} {cs:Array Value} (h:Blk w g t cs) (e:w'.heap[g]?=w.heap[g]?):Blk w' g t cs:=e.trans h
section
variable (bs:List Int) (A:Option Addr) (c:Nat) (w:World)
variable (hs:Sl w w.heap.size A (byCells bs)) (hby:By bs) (hmax:bs.length≤300000)
include hs hby hmax
theorem rdecode_any:Calls Tryz.prog 39 #[.slice A bs.length c] w (Decoded (hdecode bs) w):=by
 obtain ⟨w0,hw0⟩:∃ w0,w0=w.alloc (.cells #[.int .i64 0,.int .i64 0,.slice none 0 0,.int .i64 0,.slice none 0 0,.slice none 0 0,.slice none 0 0] 73):=⟨_,rfl⟩
 have hb0:Below w.heap.size w w0:=by rw [hw0];exact bA
 have hz0:w0.heap.size=w.heap.size+1:=by rw [hw0];simp
 have R0:Blk w0 w.heap.size 73 #[.int .i64 0,.int .i64 0,.slice none 0 0,.int .i64 0,.slice none 0 0,.slice none 0 0,.slice none 0 0]:=by rw [hw0];exact Blk.new _ _ _
 have hby':∀ (j:Nat) (x:Int),bs[j]?=some x→0≤x∧x≤255:=fun j x h=>hby x (List.mem_of_getElem? h)
 have CL:=rclassify_any bs A c w0 ((hs.below hb0).more hb0.size) hby'
 have PA:∀ w1,Below w0.heap.size w0 w1→Calls Tryz.prog 45 #[.slice A bs.length c] w1 (Parsed (hparse bs) w1):=fun w1 h1=>rparse_any bs A c w1 (((hs.below hb0).below (h1.mono hb0.size)).more (Nat.le_trans hb0.size h1.size)) hby'
 obtain ⟨cl,hcl⟩:∃ cl,hclass bs=cl:=⟨_,rfl⟩
 rw [hcl] at CL
 obtain ⟨h,n,er,hpe⟩:∃ h n er,hparse bs=(h,n,er):=⟨_,_,_,rfl⟩
 rw [hpe] at PA
 have HD:Hid (hdecode bs=if cl=0 then (rqOf h (bs.drop n.toNat),0) else (rqZero,cl)):=by apply hide;unfold hdecode;rw [hcl,hpe]
 by_cases hc0:cl=0
 · subst hc0
   have DF:=dec_facts hpe hcl
   obtain ⟨rfl,hk,hn0,hn1,hP0,hQ0,hPQ,hPQ1,hlen⟩:=DF
   obtain ⟨op,vs,rs,pts⟩:=h
   dsimp only at hk hP0 hQ0 hPQ hPQ1 hlen
   obtain ⟨N,rfl⟩:=Int.eq_ofNat_of_zero_le hn0
   rw [if_pos rfl,Int.toNat_natCast] at HD
   have HCL:=hide CL;have HPA:=hide PA;have HK:=hide hk
   have HPE:=hide hpe;have HCLS:=hide hcl;have HBY:=hide hby;have HS:=hide hs
   clear CL PA hpe hcl hby hby' hk hs
   go_enter Tryz.func39,Tryz.ntmps39
   go_wp2_with fail
   rw [← hw0]
   have HW0:=hide hw0;clear hw0
   refine HCL.out.mono ?_
   rintro e w1 ⟨rfl,hb1⟩
   have PA1:=HPA.out w1 hb1
   clear HPA HCL
   have HPA:=hide PA1
   clear PA1
   go_wp2_with fail
   refine HPA.out.mono ?_
   rintro e w2 ⟨HA,hc,rfl,hsl,hb2⟩
   clear HPA
   have R2:=(R0.step hb1).step hb2
   have HB2:=bl_step (bl_step hb0 hb1) hb2
   dsimp only at hsl ⊢
   obtain ⟨w3,hw3⟩:∃ w3,w3=(w2.alloc (.cells #[.int .i64 op,.int .i64 vs,.slice HA rs.length hc,.int .i64 pts] 24)).alloc (.cells #[.int .i64 op,.int .i64 vs,.slice HA rs.length hc,.int .i64 pts,.slice none 0 0,.slice none 0 0,.slice none 0 0] 73):=⟨_,rfl⟩
   have hb3:Below w2.heap.size w2 w3:=by rw [hw3];exact bl_alloc (bA) _
   have hz3:w3.heap.size=w2.heap.size+2:=by rw [hw3];simp
   have H3:Blk w3 w2.heap.size 24 #[.int .i64 op,.int .i64 vs,.slice HA rs.length hc,.int .i64 pts]:=by rw [hw3];exact (Blk.new _ _ _).alloc _
   have Q3:Blk w3 (w2.heap.size+1) 73 #[.int .i64 op,.int .i64 vs,.slice HA rs.length hc,.int .i64 pts,.slice none 0 0,.slice none 0 0,.slice none 0 0]:=by rw [hw3];exact Blk.new2 _ _ _ _
   have HB3:=bl_step HB2 hb3
   go_wp2
   rw [← hw3]
   have HW3:=hide hw3;clear hw3
   obtain ⟨q,hq⟩:∃ q,q=w2.heap.size+1:=⟨_,rfl⟩
   rw [← hq] at Q3 ⊢
   obtain ⟨C,hC⟩:∃ C,C=w3.heap.size:=⟨_,rfl⟩
   obtain ⟨pl,hpl⟩:∃ pl,pl=bs.drop N:=⟨_,rfl⟩
   have hpll:pl.length=bs.length - N:=by rw [hpl,List.length_drop]
   have hqe:w2.heap.size+1≤q∧q≤w2.heap.size+1:=by omega
   have hCe:w3.heap.size≤C∧C≤w3.heap.size:=by omega
   clear hq hC
   have hBP:∀ k,k<w.heap.size→PD C q q k:=fun k hk=>by have:=HB2.size;unfold PD;omega
   have HBP:=hide hBP;have HPL:=hide hpll;have HPLD:=hide hpl
   have HSL:=hide hsl
   have hcb:=cnt_bd HK.out
   obtain ⟨hvs0,hvs1,hrl64,hcP,hcQ⟩:=hcb
   clear hBP hpll hpl hsl
   -- the rows of points that are read,in a world that keeps what was there
   have hrp:∀ (w':World),Below w.heap.size w w'→∀ at_ n step:Nat,step≤100→16≤step→at_+n*step≤bs.length →
    Calls Tryz.prog 78 #[.slice A bs.length c,.int .i64 (at_:Int),.int .i64 (n:Int),.int .i64 (step:Int)] w' (Pointed (ptsOff bs at_ step n) w') :=
    fun w' hb at_ n step h1 h2 h3=>rpoints_at bs A c w' ((HS.out.below hb).more hb.size) HBY.out (by omega) at_ n step h1 h2 h3
   have HRP:=hide hrp;clear hrp
   have hnS:∀ k,nSum (rs.take k)≤nSum rs:=nSum_take_le rs
   have HNS:=hide hnS;clear hnS
   go_loopw [6,9] (fun at_ i wr=>∃ (k:Nat) (gs:List Gr) (v:Value),k≤rs.length∧i=.int .i64 k∧at_=.int .i64 ((N+16*nSum (rs.take k):Nat):Int)∧KeepP (PD C q q) w3 wr∧Blk wr q 73 #[.int .i64 op,.int .i64 vs,.slice HA rs.length hc,.int .i64 pts,v,.slice none 0 0,.slice none 0 0] ∧
    QI wr C gs v∧gs.map gdOf=regsOf (rs.take k) pl∧gs.length=k)
    (fun _ i _=>rs.length - (intOf i).toNat)
   case atStart=>exact ⟨0,[],.slice none 0 0,by omega,rfl,by simp [nSum],KeepP.refl _ _,Q3,QI.nil _ _,rfl,rfl⟩
   case round =>
    obtain ⟨k,gs,v,hk,rfl,rfl,hkp,hqb,hqi,hgd,hgl⟩:=hrel
    have HGD:=hide hgd;clear hgd
    have HQI:=hide hqi;clear hqi
    have Hr:=H3.kept hkp (by unfold PD;omega)
    have h2:=Hr.cell (i:=2) rfl
    by_cases hlt:k<rs.length
    · obtain ⟨r,hr⟩:∃ r,rs[k]?=some r:=⟨_,List.getElem?_eq_getElem hlt⟩
      obtain ⟨hb_,hoff,rfl,hhb,d0,d1,d2⟩:=HSL.out.rg hr
      have hPh:PD C q q hb_:=by unfold PD;omega
      have c0:=((hkp.cell hPh _).trans (hb3.cell (p:=⟨hb_,_,none⟩) hhb)).trans d0
      have c1:=((hkp.cell hPh _).trans (hb3.cell (p:=⟨hb_,_,none⟩) hhb)).trans d1
      have c2:=((hkp.cell hPh _).trans (hb3.cell (p:=⟨hb_,_,none⟩) hhb)).trans d2
      clear d0 d1 d2
      obtain ⟨wx,hwx⟩:∃ wx,wx=wr.alloc (.cells #[.bool r.d,.int .i64 r.v,.slice r.A r.n r.c] 61):=⟨_,rfl⟩
      have hbx:Below wr.heap.size wr wx:=by rw [hwx];exact bA
      have X0:Blk wx wr.heap.size 61 #[.bool r.d,.int .i64 r.v,.slice r.A r.n r.c]:=by rw [hwx];exact Blk.new _ _ _
      have hzx:wx.heap.size=wr.heap.size+1:=by rw [hwx];simp
      have hCr:C≤wr.heap.size:=Nat.le_trans hCe.2 hkp.size
      have HSN:=hide (nSum_snoc rs k r hr)
      have HRG:=hide (regsOf_snoc rs pl k r hr)
      have HNL:=hide (nSum_take_le rs (k+1))
      clear hr
      have x1:=X0.cell (i:=1) rfl
      have hhbr:hb_<wr.heap.size:=cell_lt c0
      have hkl:(k:Int)<(rs.length:Int):=by omega
      go_wp2_with fail
      rw [← hwx]
      have HWX:=hide hwx;clear hwx
      refine (refSize_any r.v wx).mono ?_
      rintro e w5 ⟨rfl,rfl⟩
      rw [← sizeN_cast]
      have hn64:=sizeN_le r.v
      have hsn:=HSN.out
      have hnl:=HNL.out
      have RP:=HRP.out wx ((HB3.trans (hkp.below HBP.out)).trans (hbx.mono (by have:=HB3.size;have:=hkp.size;omega))) (N+16*nSum (rs.take k)) (sizeN r.v) 16 (by omega) (by omega) (by omega)
      have HTK:=hide RP
      clear RP x1
      go_wp2_with fail
      refine HTK.out.mono ?_
      rintro e w6 ⟨PAd,pc,rfl,k6,own6⟩
      rw [ptsOff_16,← List.drop_drop,← HPLD.out] at own6
      rw [ptsOff_length]
      rw [ptsOf_length] at own6
      have s6:Sl w6 w6.heap.size PAd (ptCs (ptsOf (pl.drop (16*nSum (rs.take k))) (sizeN r.v))):=Sl.of_own own6
      have f6:∀ x,PAd=some x→wx.heap.size≤x.block:=fun x hx=>by
       subst hx
       exact own_base own6 rfl
      have hcb5:wr.heap.size<wx.heap.size:=by omega
      have hql:=hqb.lt
      have hsz6:=k6.size
      have hch:∀ b',b'<wr.heap.size→w6.heap[b']?=wr.heap[b']?:=fun b' h1=>(k6.block b' (by omega)).trans (hbx.block b' h1)
      have X6:Blk w6 wr.heap.size 61 #[.bool r.d,.int .i64 r.v,.slice r.A r.n r.c]:=X0.step k6
      have X7:Blk (w6.setCell ⟨wr.heap.size,2,none⟩ (.slice PAd (sizeN r.v) pc)) wr.heap.size 61 #[.bool r.d,.int .i64 r.v,.slice PAd (sizeN r.v) pc]:=X6.set 2 _
      have Q6:Blk w6 q 73 #[.int .i64 op,.int .i64 vs,.slice (some ⟨hb_,hoff,none⟩) rs.length hc,.int .i64 pts,v,.slice none 0 0,.slice none 0 0]:=(hch q hql).trans hqb
      have Q7:=Q6.far (p:=⟨wr.heap.size,2,none⟩) (by simp;omega) (.slice PAd (sizeN r.v) pc)
      have hch7:∀ b',b'<wr.heap.size→(w6.setCell ⟨wr.heap.size,2,none⟩ (.slice PAd (sizeN r.v) pc)).heap[b']?=wr.heap[b']?:=fun b' h1=>(Below.heap_setCell w6 ⟨wr.heap.size,2,none⟩ _ b' (by simp;omega)).trans (hch b' h1)
      have hz7:(w6.setCell ⟨wr.heap.size,2,none⟩ (.slice PAd (sizeN r.v) pc)).heap.size=w6.heap.size:=World.size_setCell _ _ _
      have QI7:QI (w6.setCell ⟨wr.heap.size,2,none⟩ (.slice PAd (sizeN r.v) pc)) C gs v:=HQI.out.move (by omega) fun b' h1 h2=>hch7 b' h2
      have s7:=s6.far (p:=⟨wr.heap.size,2,none⟩) (fun _ x hx=>by have:=f6 x hx;simp;omega) (.slice PAd (sizeN r.v) pc)
      have y2:=X6.cell (i:=2) rfl
      have fz2:=X6.frozen 2
      have hnew:∀ x,PAd=some x→C≤x.block∧v.ownBlock≠some x.block:=fun x hx=>by
       have h1:=f6 x hx
       refine ⟨by omega,fun e=>?_⟩
       have:=own_lt HQI.out.1 e
       omega
      have HNEW:=hide hnew;have HCH7:=hide hch7;have HS7:=hide s7;have HQI7:=hide QI7
      have hown7:=QI7.1
      rw [hgl] at hown7
      clear hnew hch hch7 s7 s6 QI7 f6 HTK own6
      have kxx:N+16*nSum (rs.take k)+16*sizeN r.v=N+16*nSum (rs.take (k+1)):=by omega
      have HKXX:=hide kxx
      clear kxx
      obtain ⟨w7,hw7⟩:∃ w7,w7=w6.setCell ⟨wr.heap.size,2,none⟩ (.slice PAd (sizeN r.v) pc):=⟨_,rfl⟩
      rw [← hw7] at X7 Q7 hz7 HCH7 HS7 HQI7 hown7
      have hw7s:=hw7.symm
      have y0:=X7.cell (i:=0) rfl
      have y1:=X7.cell (i:=1) rfl
      have y2':=X7.cell (i:=2) rfl
      have q4:=Q7.cell (i:=4) rfl
      obtain ⟨i0,hi,hi0,hi1,hi2⟩:=info_parts rg_info
      have hz7':w6.heap.size≤w7.heap.size∧w7.heap.size≤w6.heap.size:=by omega
      have k17:KeepP (PD C q q) wr w7:=by
       have k1:KeepP (PD C q q) wr w6:=(KeepP.of_below hbx (fun k hk=>by unfold PD at hk;omega)).trans (KeepP.of_below k6 (fun k hk=>by unfold PD at hk;omega))
       rw [hw7]
       exact k1.trans (KeepP.set (by unfold PD;omega) 2 _ _)
      have K17:=hide k17
      clear hw7 hz7 k17 h2
      have hC7:C≤w7.heap.size:=by omega
      go_wp2_with (at_builtin;refine wpList_append_lies _ rfl (.tmp 51) (.tmp 53) 22 rfl C 61 i0 (.agg #[.bool false,.int .i64 0,.slice none 0 0]) 3 40 Tryz.underlying22 hi hi0 hi1 hi2 rfl (by decide) v k _ rfl (own_step hown7 (bA)) ⟨w7.heap.size,0,none⟩ 1 1 [.bool r.d,.int .i64 r.v,.slice PAd (sizeN r.v) pc] rfl rfl ?a1 ?a2 ?a3 ?a4 ?a5 ?a6 (w7.heap.size+1) ?a7 ?_)
      case a1=>exact blk_cells (Blk.new _ _ _)
      case a2=>simp [Value.oneCell']
      case a3=>omega
      case a4=>unfold maxLen;omega
      case a5=>omega
      case a6=>simp;omega
      case a7=>simp
      intro g' cap w8 hown8 hgrow hat hlt8
      have hbA:Below w7.heap.size w7 (w7.alloc (.cells #[.bool r.d,.int .i64 r.v,.slice PAd (sizeN r.v) pc] 61)):=bA
      have hQI8:QI w8 C (gs++[(⟨r.d,r.v,PAd,sizeN r.v,pc⟩,ptsOf (pl.drop (16*nSum (rs.take k))) (sizeN r.v))]) (.slice (some ⟨g',0,none⟩) (k+1) cap) :=
       qi_push HQI7.out hbA hown8 (by simp [hgl]) (by simp [rgCells,Rg.cells]) hgrow (by simpa using hat) ⟨(ptsOf_length _ _).symm,HS7.out.more hz7'.1,fun _=>HNEW.out⟩
      have hgb:∀ b',b'<C→(w8.heap[b']?=w7.heap[b']?):=fun b' hb'=>by
       refine (hgrow.block b' (by simp;omega) (fun e=>?_)).trans (hbA.block b' (by omega))
       have:=own_base hown7 e.symm
       omega
      have Q8:Blk w8 q 73 #[.int .i64 op,.int .i64 vs,.slice (some ⟨hb_,hoff,none⟩) rs.length hc,.int .i64 pts,v,.slice none 0 0,.slice none 0 0]:=(hgb q (by omega)).trans Q7
      have hz8:w7.heap.size≤w8.heap.size:=Nat.le_trans hbA.size hgrow.size
      have K8:KeepP (PD C q q) wr w8 :=
       K17.out.trans ⟨hgrow.os.trans hbA.os,hgrow.tape.trans hbA.tape,hgrow.output.trans hbA.output,hz8,fun b' hb'=>hgb b' hb'.1⟩
      have HQI8:=hide hQI8;have HK8:=hide K8
      have p4:=Q8.cell (i:=4) rfl
      have fz4:=Q8.frozen 4
      have m1:IntKind.i64.wrap (16*(sizeN r.v:Int))=16*(sizeN r.v:Int):=by rw [IntKind.wrap_i64];omega
      clear hQI8 K8 hgb hown8 hgrow q4 y0 y1 y2 y2' hw7s
      go_wp2
      go_roundw
      case rel =>
       refine ⟨k+1,_,_,by omega,by go_num,by congr 1;have:=HKXX.out;omega,hkp.trans (HK8.out.trans (KeepP.set (by unfold PD;omega) 4 _ _)),Q8.set 4 _,
        HQI8.out.move (by simp [World.size_setCell]) (fun b' h1 h2=>Below.heap_setCell w8 ⟨q,4,none⟩ _ b' (by simp;omega)),?_,by simp [hgl]⟩
       rw [List.map_append,HGD.out,HRG.out];rfl
      case measure=>simp [intOf];omega
    · obtain rfl:rs.length=k:=by omega
      rw [List.take_length] at HGD
      rw [List.take_length]
      obtain ⟨np,hnp⟩:=Int.eq_ofNat_of_zero_le hP0
      obtain ⟨mq,hmq⟩:=Int.eq_ofNat_of_zero_le hQ0
      rw [hnp] at hlen hPQ hcP
      rw [hmq] at hlen hPQ hcQ
      have CN:=rcounts_any op vs pts wr hvs0 hvs1 HA rs.length hc
      rw [hnp,hmq] at CN
      have HCN:=hide CN
      have HPQ:=hide hPQ
      have Rr:=(R2.step hb3).kept hkp (by have:=HB2.size;unfold PD;omega)
      have h0:=Hr.cell (i:=0) rfl
      have h1:=Hr.cell (i:=1) rfl
      have h3:=Hr.cell (i:=3) rfl
      have HNP:=hide hnp;have HMQ:=hide hmq
      have hql:=hqb.lt
      have hkz:=hkp.size
      have hB2z:=HB2.size
      have HBr:=HB3.trans (hkp.below HBP.out)
      have HBR:=hide HBr
      clear CN hPQ hnp hmq hP0 hQ0 hPQ1 HBr
      obtain ⟨at_,hat⟩:∃ at_,at_=N+16*nSum rs:=⟨_,rfl⟩
      rw [← hat]
      have hate:N+16*nSum rs≤at_∧at_≤N+16*nSum rs:=by omega
      have HAT:=hide hat
      clear hat
      obtain ⟨gs0,hgs0⟩:∃ gs0,gs0=gs:=⟨_,rfl⟩
      go_wp2_with fail
      refine HCN.out.mono ?_
      rintro e w10 ⟨rfl,hb10⟩
      have hz10:=hb10.size
      have HB10:=HBR.out.trans (hb10.mono (by have:=HBR.out.size;omega))
      have RP:=HRP.out w10 HB10 at_ np 16 (by omega) (by omega) (by omega)
      have HTK:=hide RP
      clear RP h0 h1 h2 h3
      go_wp2_with fail
      refine HTK.out.mono ?_
      rintro e w11 ⟨A1,pc1,rfl,hb11,own11⟩
      have HCAP:Hid (np≤pc1):=by
       obtain ⟨_,_,hh,h⟩:=own_slice own11
       cases hh
       rw [ptsOff_length] at h
       exact h
      rw [ptsOff_16,HAT.out,← List.drop_drop,← HPLD.out,ptsOf_length] at own11
      rw [ptsOff_length]
      have s11:Sl w11 w11.heap.size A1 (ptCs (ptsOf (pl.drop (16*nSum rs)) np)):=Sl.of_own own11
      have f11:∀ x,A1=some x→w10.heap.size≤x.block:=fun x hx=>by subst hx;exact own_base own11 rfl
      have hz11:=hb11.size
      have Q11:=(hqb.step hb10).step hb11
      have R11:=(Rr.step hb10).step hb11
      have q5:=Q11.cell (i:=5) rfl
      have fz5:=Q11.frozen 5
      obtain ⟨w12,hw12⟩:∃ w12,w12=w11.setCell ⟨q,5,none⟩ (.slice A1 np pc1):=⟨_,rfl⟩
      have Q12:Blk w12 q 73 #[.int .i64 op,.int .i64 vs,.slice HA rs.length hc,.int .i64 pts,v,.slice A1 np pc1,.slice none 0 0]:=by rw [hw12];exact Q11.set 5 _
      have R12:=R11.far (p:=⟨q,5,none⟩) (by simp;omega) (.slice A1 np pc1)
      rw [← hw12] at R12
      have hz12:w11.heap.size≤w12.heap.size∧w12.heap.size≤w11.heap.size:=by rw [hw12,World.size_setCell];omega
      have E12:Hid (∀ b',b'≠q→w12.heap[b']?=w11.heap[b']?):=hide fun b' hb'=>by rw [hw12];exact Below.heap_setCell w11 ⟨q,5,none⟩ _ b' hb'
      have K12:Hid (KeepP (PD C q q) w11 w12):=by apply hide;rw [hw12];exact KeepP.set (by unfold PD;omega) 5 _ _
      have hw12s:=hw12.symm
      have HB12:=(HB10.trans (hb11.mono (by omega))).trans (K12.out.below HBP.out)
      have RQ:=HRP.out w12 HB12 at_ mq 24 (by omega) (by omega) (by omega)
      have HTQ:=hide RQ
      clear RQ hw12 own11 q5
      have q5:=Q11.cell (i:=5) rfl
      go_wp2_with fail
      refine HTQ.out.mono ?_
      rintro e w13 ⟨A3,pc3,rfl,hb13,own13⟩
      rw [ptsOff_length]
      rw [ptsOff_length] at own13
      have s13:Sl w13 w13.heap.size A3 (ptCs (ptsOff bs at_ 24 mq)):=Sl.of_own own13
      have f13:∀ x,A3=some x→w12.heap.size≤x.block:=fun x hx=>by subst hx;exact own_base own13 rfl
      have hz13:=hb13.size
      have Q13:=Q12.step hb13
      have R13:=R12.step hb13
      have HB13:=HB12.trans (hb13.mono (by omega))
      have HS13:=hide s13
      clear hw12s own13 s13 HTQ HTK q5
      have hqz:q<w13.heap.size:=by omega
      have hBP2:∀ k,k<w.heap.size→PD w13.heap.size q q k:=fun k hk=>by unfold PD;omega
      have HBP2:=hide hBP2
      clear hBP2
      go_wp2
      go_loopw [15] (fun i wr2=>∃ (k:Nat) (v2:Value),k≤mq∧i=.int .i64 k∧KeepP (PD w13.heap.size q q) w13 wr2∧Blk wr2 q 73 #[.int .i64 op,.int .i64 vs,.slice HA rs.length hc,.int .i64 pts,v,.slice A1 np pc1,v2] ∧
       wr2.ownsRow w13.heap.size 127 3 v2 k (quCs (qusOf (pl.drop (16*nSum rs)) k)))
       (fun i _=>mq - (intOf i).toNat)
      case atStart=>exact ⟨0,.slice none 0 0,by omega,rfl,KeepP.refl _ _,Q13,World.ownsRow_nil _ _ _ _⟩
      case round =>
       obtain ⟨k,v2,hk2,rfl,hkp2,hqb2,hown⟩:=hrel
       have hkz2:=hkp2.size
       by_cases hlt2:k<mq
       · obtain ⟨b3,off3,rfl,hb3lt,c0,c1⟩:=HS13.out.pt (ptsOff_get bs at_ 24 hlt2)
         obtain ⟨x,hx⟩:∃ x,x=(ptOff bs at_ 24 k).1:=⟨_,rfl⟩
         obtain ⟨y,hy⟩:∃ y,y=(ptOff bs at_ 24 k).2:=⟨_,rfl⟩
         rw [← hx] at c0
         rw [← hy] at c1
         obtain ⟨id,hid⟩:∃ id,id=le ((bs.drop (at_+24*k+16)).take 8):=⟨_,rfl⟩
         have hqu:quAt (pl.drop (16*nSum rs)) k=((x,y),id):=by
          rw [HPLD.out,List.drop_drop,← HAT.out,quAt_off,hx,hy,hid];rfl
         have hsn:qusOf (pl.drop (16*nSum rs)) (k+1)=qusOf (pl.drop (16*nSum rs)) k++[((x,y),id)]:=by
          rw [← hqu];simp [qusOf,List.range_succ]
         have hb3q:b3≠q:=by have:=f13 _ rfl;dsimp only at this;omega
         have hPb3:PD w13.heap.size q q b3:=⟨hb3lt,hb3q,hb3q⟩
         have c0':=(hkp2.cell hPb3 _).trans c0
         have c1':=(hkp2.cell hPb3 _).trans c1
         have W:=wordAt_any bs A c wr.heap.size wr.drew ((((HS.out.below HB13).kept hkp2 HBP2.out).more (by have:=HB13.size;omega))) HBY.out (by omega) (at_+24*k+16) (by omega)
         rw [← hid] at W
         rw [show ((at_+24*k+16:Nat):Int)=(at_:Int)+24*(k:Int)+16 by omega] at W
         have HW:=hide W
         have HSN:=hide hsn
         obtain ⟨i0,hi,hi0,hi1,hi2⟩:=info_parts qu_info
         have q6:=hqb2.cell (i:=6) rfl
         have fz6:=hqb2.frozen 6
         have hne:some q≠v2.ownBlock:=own_ne hown hqz
         have m1:IntKind.i64.wrap (24*(k:Int))=24*(k:Int):=by rw [IntKind.wrap_i64];omega
         have m2:IntKind.i64.wrap ((at_:Int)+24*(k:Int))=(at_:Int)+24*(k:Int):=by rw [IntKind.wrap_i64];omega
         have m3:IntKind.i64.wrap ((at_:Int)+24*(k:Int)+16)=(at_:Int)+24*(k:Int)+16:=by rw [IntKind.wrap_i64];omega
         have hkq:(k:Int)<(mq:Int):=by omega
         have hk0:(0:Int)≤(k:Int):=by omega
         have hql2:=hqb2.lt
         clear hx hy hid hqu hsn W c0 c1
         go_wp2
         go_region_law (first
          | (refine step_append_lies _ (by rfl) (.tmp 80) (.tmp 93) 71 (by rfl) w13.heap.size 127 i0 (.agg #[.int .i64 0,.int .i64 0,.int .u64 0]) 3 24 Tryz.underlying71 hi hi0 hi1 hi2 (by rfl) (by decide) v2 _ _ (by rfl) (own_step hown (bl_drew (bA))) ⟨wr.heap.size,0,none⟩ 1 1 [.int .i64 x,.int .i64 y,.int .u64 id] (by rfl) (by rfl) (blk_cells (Blk.new _ _ _).drew) (by simp [Value.oneCell']) (by omega) (by unfold maxLen;omega) (by omega) (by simp;omega) (wr.heap.size+1) (by simp) ?_;intro g' cap w1 hown1 hgrow hat hlt';have d1:=(World.grownBy.cell_far hgrow ⟨q,6,none⟩ (by simp;omega) hne).trans (((bl_drew (bA):Below wr.heap.size wr _).cell (p:=⟨q,6,none⟩) hql2).trans q6);have f1:=(World.grownBy.frozen_far hgrow ⟨q,6,none⟩ (by simp;omega) hne).trans (((bl_drew (bA):Below wr.heap.size wr _).frozen (p:=⟨q,6,none⟩) hql2).trans fz6))
          | (go_simp;go_at_call 80;refine HW.out.mono ?_;rintro e w' ⟨rfl,rfl⟩))
         all_goals
          have hbA:=(bl_drew (bA):Below wr.heap.size wr (wr.alloc (.cells #[.int .i64 x,.int .i64 y,.int .u64 id] 127)).drew)
          have hgb:∀ b',b'<w13.heap.size→w1.heap[b']?=wr.heap[b']?:=fun b' hb'=>by
           refine (hgrow.block b' (by have:=hbA.size;omega) (fun e=>?_)).trans (hbA.block b' (by omega))
           have:=own_base hown e.symm
           omega
          have hz1:wr.heap.size≤w1.heap.size:=Nat.le_trans hbA.size hgrow.size
          have Q1:=Q_moved hqb2 (hgb q hqz)
          have K1:KeepP (PD w13.heap.size q q) wr w1:=⟨hgrow.os.trans hbA.os,hgrow.tape.trans hbA.tape,hgrow.output.trans hbA.output,hz1,fun b' hb'=>hgb b' hb'.1⟩
          have hown2:w1.ownsRow w13.heap.size 127 3 (.slice (some ⟨g',0,none⟩) (k+1) cap) (k+1) (quCs (qusOf (pl.drop (16*nSum rs)) (k+1))):=by
           rw [HSN.out,quCs_snoc];exact hown1
          have HK1:=hide K1;have HO2:=hide hown2
          clear K1 hown2 hown1 hgrow hgb
          go_wp2
          go_roundw
          case rel=>exact ⟨k+1,_,by omega,by go_num,hkp2.trans (HK1.out.trans (KeepP.set (by unfold PD;omega) 6 _ _)),Q1.set 6 _,own_set HO2.out (by have:=own_base (k:=g') HO2.out rfl;simp [Value.ownBlock];omega) _⟩
          case measure=>simp [intOf];omega
       · obtain rfl:mq=k:=by omega
         clear hkz
         have R14:=R13.kept hkp2 ⟨by omega,by omega,by omega⟩
         obtain ⟨QA,qc,rfl,_⟩:=own_slice hown
         obtain ⟨GA,gc,rfl,_⟩:=own_slice HQI.out.1
         have q0:=hqb2.cell (i:=0) rfl
         have q1:=hqb2.cell (i:=1) rfl
         have q2:=hqb2.cell (i:=2) rfl
         have q3:=hqb2.cell (i:=3) rfl
         have q4:=hqb2.cell (i:=4) rfl
         have q5:=hqb2.cell (i:=5) rfl
         have q6:=hqb2.cell (i:=6) rfl
         have r0:=R14.cell (i:=0) rfl
         have r1:=R14.cell (i:=1) rfl
         have r2:=R14.cell (i:=2) rfl
         have r3:=R14.cell (i:=3) rfl
         have r4:=R14.cell (i:=4) rfl
         have r5:=R14.cell (i:=5) rfl
         have r6:=R14.cell (i:=6) rfl
         have g0:=R14.frozen 0
         have g1:=R14.frozen 1
         have g2:=R14.frozen 2
         have g3:=R14.frozen 3
         have g4:=R14.frozen 4
         have g5:=R14.frozen 5
         have g6:=R14.frozen 6
         have HB14:=HB13.trans (hkp2.below HBP2.out)
         have HOWN:=hide hown;have HKP2:=hide hkp2;have HQB2:=hide hqb2
         clear hown hqb2
         go_wp2
         clear q0 q1 q2 q3 q4 q5 q6 r0 r1 r2 r3 r4 r5 r6 g0 g1 g2 g3 g4 g5 g6
         obtain ⟨e0,e1,e2,e3,e4,e5,e6⟩:=set7_cells R14 (.int .i64 op) (.int .i64 vs) (.slice HA rs.length hc) (.int .i64 pts) (.slice GA rs.length gc) (.slice A1 np pc1) (.slice QA mq qc)
         rw [HD.out]
         refine bodyPost_ret (v:=.tuple #[.agg #[.int .i64 op,.int .i64 vs,.slice HA rs.length hc,.int .i64 pts,.slice GA rs.length gc,.slice A1 np pc1,.slice QA mq qc],.int .i64 0]) (by simp [results,Tryz.results39,go_sem,e0,e1,e2,e3,e4,e5,e6]) rfl ?_
         clear e0 e1 e2 e3 e4 e5 e6
         obtain ⟨W,hW⟩:∃ W,W=set7 wr w.heap.size (.int .i64 op) (.int .i64 vs) (.slice HA rs.length hc) (.int .i64 pts) (.slice GA rs.length gc) (.slice A1 np pc1) (.slice QA mq qc):=⟨_,rfl⟩
         have hWz:wr.heap.size≤W.heap.size:=by rw [hW,set7_size];exact Nat.le_refl _
         have eW:∀ b',b'≠w.heap.size→W.heap[b']?=wr.heap[b']?:=fun b' hb'=>by rw [hW];exact set7_far wr _ _ _ _ _ _ _ _ b' hb'
         have hBW:Below w.heap.size w W:=by rw [hW];exact set7_below HB14 (Nat.le_refl _) _ _ _ _ _ _ _
         have e11:∀ b',b'<w11.heap.size→b'≠q→b'≠w.heap.size→W.heap[b']?=w11.heap[b']?:=fun b' h1 h2 h4=>(eW b' h4).trans ((HKP2.out.block b' ⟨by omega,h2,h2⟩).trans ((hb13.block b' (by omega)).trans (E12.out b' h2)))
         have er:=fun b' h1 h2 h4=>(e11 b' (Nat.lt_of_lt_of_le h1 (Nat.le_trans hz10 hz11)) h2 h4).trans ((hb11.block b' (Nat.lt_of_lt_of_le h1 hz10)).trans (hb10.block b' h1))
         have QIW:QI W C gs (.slice GA gs.length gc):=HQI.out.move (by omega) fun b' h1 h2=>er b' h2 (by omega) (by omega)
         have hslW:Sl W w2.heap.size HA (rgCells rs):=HSL.out.at_ fun b' h1 hx x hA hxb=>by
          refine (er b' (by omega) (by omega) ?_).trans ((hkp.block b' (by unfold PD;omega)).trans (hb3.block b' h1))
          subst hxb
          intro e
          exact no_bool hx HSL.out hA (by rw [e];exact R2)
         have s11':Sl W w11.heap.size A1 (ptCs (ptsOf (pl.drop (16*nSum rs)) np)):=s11.at_ fun b' h1 hx x hA hxb=>by
          have:=f11 x hA
          subst hxb
          exact e11 _ h1 (by omega) (by omega)
         have ownW:W.ownsRow w13.heap.size 127 3 (.slice QA mq qc) mq (quCs (qusOf (pl.drop (16*nSum rs)) mq)):=own_blk HOWN.out fun k hk=>eW k (by have:=own_base HOWN.out hk;omega)
         show Decoded (rqOf ⟨op,vs,rs,pts⟩ (bs.drop N),0) w _ (set7 wr w.heap.size _ _ _ _ _ _ _)
         rw [← hW]
         clear hW
         have hps:(rqOf ⟨op,vs,rs,pts⟩ (bs.drop N)).ps=ptsOf (pl.drop (16*nSum rs)) np:=by
          show ptsOf _ (cntP op vs).toNat=_
          rw [HNP.out,← HPLD.out];rfl
         have hqs:(rqOf ⟨op,vs,rs,pts⟩ (bs.drop N)).qs=qusOf (pl.drop (16*nSum rs)) mq:=by
          show qusOf _ (cntQ op pts).toNat=_
          rw [HMQ.out,← HPLD.out];rfl
         refine ⟨rs,HA,hc,gs,GA,gc,A1,pc1,QA,qc,?_,hBW,?_,by rw [hps,ptsOf_length];exact HCAP.out⟩
         · unfold rqVal
           dsimp only
           rw [hps,hqs,ptsOf_length,qusOf_length,hgl]
           rfl
         · refine ⟨hslW.more (by omega),rfl,Sl.of_own QIW.1,QIW.gsOk,?_,?_,?_⟩
           · rw [HGD.out,HPLD.out];rfl
           · dsimp only;rw [hps];exact s11'.more (by omega)
           · dsimp only;rw [hqs];exact Sl.of_own ownW
 · have hne:(cl != 0)=true:=by simpa using hc0
   rw [if_neg hc0] at HD
   have HCL:=hide CL;clear CL PA hpe hcl hc0 hby hby' hs
   go_enter Tryz.func39,Tryz.ntmps39
   go_wp2_with fail
   rw [← hw0]
   have HW0:=hide hw0;clear hw0
   refine HCL.out.mono ?_
   rintro e w1 ⟨rfl,hb1⟩
   have R1:=R0.step hb1
   have r0:=R1.cell (i:=0) rfl
   have r1:=R1.cell (i:=1) rfl
   have r2:=R1.cell (i:=2) rfl
   have r3:=R1.cell (i:=3) rfl
   have r4:=R1.cell (i:=4) rfl
   have r5:=R1.cell (i:=5) rfl
   have r6:=R1.cell (i:=6) rfl
   have f0:=R1.frozen 0
   have f1:=R1.frozen 1
   have f2:=R1.frozen 2
   have f3:=R1.frozen 3
   have f4:=R1.frozen 4
   have f5:=R1.frozen 5
   have f6:=R1.frozen 6
   go_wp2
   obtain ⟨e0,e1,e2,e3,e4,e5,e6⟩:=set7_cells R1 (.int .i64 0) (.int .i64 0) (.slice none 0 0) (.int .i64 0) (.slice none 0 0) (.slice none 0 0) (.slice none 0 0)
   rw [HD.out]
   exact bodyPost_ret (v:=.tuple #[.agg #[.int .i64 0,.int .i64 0,.slice none 0 0,.int .i64 0,.slice none 0 0,.slice none 0 0,.slice none 0 0],.int .i64 cl]) (by simp [results,Tryz.results39,go_sem,e0,e1,e2,e3,e4,e5,e6]) rfl (decoded_zero (set7_below (bl_step hb0 hb1) (Nat.le_refl _) _ _ _ _ _ _ _))
end
end
end Go.Proofs.YtfljlmleiggmjaaGreatDoor
