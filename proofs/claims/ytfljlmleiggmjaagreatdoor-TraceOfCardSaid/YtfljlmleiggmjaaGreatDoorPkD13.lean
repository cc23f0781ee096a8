/- RefClassify RefDecode -/
import Derived.Deep.RegionLaw
import Derived.Test.YtfljlmleiggmjaaGreatDoorPkD09
set_option maxRecDepth 1000000
set_option maxHeartbeats 8000000
namespace Go.Proofs.YtfljlmleiggmjaaGreatDoor
open Go.Proofs.Tryz
section
open Go.RowKit
section
variable (bs:List Int)(A:Option Addr)(c:Nat)(w:World)
variable (hs:Sl w w.heap.size A (ZY bs))(hby:∀ (j:Nat) (x:Int),bs[j]?=some x->0<=x/\x<=255)
include hs hby
theorem Qk :
 Calls prog 18 #[.slice A bs.length c] w fun e w'=>e=.returned (.int .i64 (Zb bs))/\Below w.heap.size w w':=by
 have hpb:=yu (ZW bs).1.op (ZW bs).1.vs (ZW bs).1.rs (ZW bs).1.Z0;have hnb:=Kw bs;have hok:=Il bs;obtain ⟨v,hv⟩:=eE (Zb bs);unfold Zb at hv;rw [show Zb bs=v from by rw [hv];rfl];have P:=P6 bs A c w hs hby;revert P hv hok hpb hnb;generalize ZW bs=r;obtain ⟨⟨op,vs,rs,Z0⟩,n,er⟩:=r;intro hpb hnb hok hv P;simp only at hpb hnb hv;have hok':er=0->ZT op vs rs Z0=0:=hok;have Uo:=hide hok';clear hok hok';have HV:=hide hv;clear hv;have HP:=hide P;clear P;have HPB:=hide hpb;clear hpb;have HNB:=hide hnb;clear hnb;go_enter func18,ntmps18;go_wp2_with fail;refine HP.out.mono ?_;rintro e w1 ⟨A1,c1,rfl,hsl,hb1⟩;simp only at hsl
 by_cases he:er=0
 · subst he;go_wp2_with fail;refine (GJ op vs Z0 rs A1 c1 _ ((hsl.below (bA)).more (by simp)) (Uo.out trivial)).mono ?_;rintro e w2 ⟨rfl,hb2⟩;obtain ⟨zkh,zki⟩:=HPB.out;obtain ⟨zkf,zkg⟩:=HNB.out
   by_cases hq:(bs.length:Int)=n+hpay op vs rs Z0
   · have hq':((bs.length:Int) != n+hpay op vs rs Z0)=false:=(by rw [bne_eq_false_iff_eq];exact hq);have HQ:=hide hq;clear hq;go_wp2;go_ret;exact ⟨YU (by rw [HV.out,if_pos trivial,if_pos HQ.out]),Z9 (Z7 hb1 _) hb2⟩
   · have hq':((bs.length:Int) != n+hpay op vs rs Z0)=true:=(by rw [bne_iff_ne];exact hq);have HQ:=hide hq;clear hq;go_wp2;go_ret;exact ⟨YU (by rw [HV.out,if_pos trivial,if_neg HQ.out]),Z9 (Z7 hb1 _) hb2⟩
 · have he':(er == 0)=false:=(by simpa using he);have HE:=hide he;clear he;go_wp2;go_ret;exact ⟨YU (by rw [HV.out,if_neg HE.out]),Z7 hb1 _⟩
end
end
section
open Go.RowKit
theorem Ut(bs:List Int)(a k:Nat):eight (bs.drop a) k=eight bs (a+k):=by unfold eight;rw [List.drop_drop]
theorem IX(bs:List Int)(a n:Nat):WZ bs a 16 n=Xm (bs.drop a) n:=by
 unfold WZ Xm
 congr 1
 funext i
 unfold OV Ul;rw [Ut,Ut,show a+i*16=a+16*i by omega,show a+16*i+8=a+(16*i+8) by omega]
theorem rM(bs:List Int)(a i:Nat):VQ (bs.drop a) i=(OV bs a 24 i,le (eight bs (a+24*i+16))):=by
 unfold VQ OV;rw [Ut,Ut,Ut,show a+i*24=a+24*i by omega,show a+24*i+8=a+(24*i+8) by omega,show a+24*i+16=a+(24*i+16) by omega]
theorem Bq(bs:List Int)(a step:Nat){n i:Nat}(h:i<n):(WZ bs a step n)[i]?=some (OV bs a step i):=by simp [WZ,h]
theorem wQ(qs:List ((Int × Int) × Int))(r:(Int × Int) × Int):Vs (qs++[r])=Vs qs++[.int .i64 r.1.1,.int .i64 r.1.2,.int .u64 r.2]:=by simp [Vs]
theorem gM{w w':World}{g:Nat}{t:TypeId}{cs:Array Value}(h:Z6 w g t cs)(e:w'.heap[g]?=w.heap[g]?):Z6 w' g t cs:=e.trans h
section
variable (bs:List Int)(A:Option Addr)(c:Nat)(w:World)
variable (hs:Sl w w.heap.size A (ZY bs))(hby:By bs)(hmax:bs.length<=300000)
include hs hby hmax
theorem M8:Calls prog 39 #[.slice A bs.length c] w (Ob (Zz bs) w):=by
 obtain ⟨w0,hw0⟩:=eE (w.alloc (.cells #[.int .i64 0,.int .i64 0,.slice none 0 0,.int .i64 0,.slice none 0 0,.slice none 0 0,.slice none 0 0] 73));have hb0:=bE hw0;have hz0:w0.heap.size=w.heap.size+1:=by rw [hw0];simp
 have R0:Z6 w0 w.heap.size 73 #[.int .i64 0,.int .i64 0,.slice none 0 0,.int .i64 0,.slice none 0 0,.slice none 0 0,.slice none 0 0]:=by rw [hw0];exact Z6.new _ _ _
 have Oz:∀ (j:Nat) (x:Int),bs[j]?=some x->0<=x/\x<=255:=fun j x h=>hby x (List.mem_of_getElem? h);have CL:=Qk bs A c w0 ((hs.below hb0).more hb0.size) Oz;have PA:∀ w1,Below w0.heap.size w0 w1->Calls prog 45 #[.slice A bs.length c] w1 (Parsed (ZW bs) w1):=fun w1 h1=>P6 bs A c w1 (((hs.below hb0).below (h1.mono hb0.size)).more (Nat.le_trans hb0.size h1.size)) Oz;obtain ⟨cl,hcl⟩:∃ cl,Zb bs=cl:=⟨_,rfl⟩;rw [hcl] at CL;obtain ⟨h,n,er,hpe⟩:∃ h n er,ZW bs=(h,n,er):=⟨_,_,_,rfl⟩;rw [hpe] at PA;have HD:Hid (Zz bs=if cl=0 then (Uc h (bs.drop n.toNat),0) else (Yk,cl)):=by apply hide;unfold Zz;rw [hcl,hpe]
 by_cases hc0:cl=0
 · subst hc0;have DF:=Tx hpe hcl;obtain ⟨rfl,hk,hn0,hn1,Sg,dZ,hPQ,oJ,hlen⟩:=DF;obtain ⟨op,vs,rs,Z0⟩:=h;dsimp only at hk Sg dZ hPQ oJ hlen;obtain ⟨N,rfl⟩:=Int.eq_ofNat_of_zero_le hn0;rw [if_pos rfl,Int.toNat_natCast] at HD;have RN:=hide CL;have Ls:=hide PA;have HK:=hide hk;have Lu:=hide hpe;have zim:=hide hcl;have Lr:=hide hby;have HS:=hide hs;clear CL PA hpe hcl hby Oz hk hs;go_enter func39,ntmps39;go_wp2_with fail;rw [<- hw0];have HW0:=hide hw0;clear hw0;refine RN.out.mono ?_;rintro e w1 ⟨rfl,hb1⟩;have PA1:=Ls.out w1 hb1;clear Ls RN;have Ls:=hide PA1;clear PA1;go_wp2_with fail;refine Ls.out.mono ?_;rintro e w2 ⟨HA,hc,rfl,hsl,hb2⟩;clear Ls;have R2:=(R0.step hb1).step hb2;have HB2:=Z9 (Z9 hb0 hb1) hb2;dsimp only at hsl ⊢;obtain ⟨w3,hw3⟩:=eE ((w2.alloc (.cells #[.int .i64 op,.int .i64 vs,.slice HA rs.length hc,.int .i64 Z0] 24)).alloc (.cells #[.int .i64 op,.int .i64 vs,.slice HA rs.length hc,.int .i64 Z0,.slice none 0 0,.slice none 0 0,.slice none 0 0] 73));have hb3:=bF hw3;have hz3:w3.heap.size=w2.heap.size+2:=(by rw [hw3];simp);have H3:Z6 w3 w2.heap.size 24 #[.int .i64 op,.int .i64 vs,.slice HA rs.length hc,.int .i64 Z0]:=(by rw [hw3];exact (Z6.new _ _ _).alloc _);have Q3:Z6 w3 (w2.heap.size+1) 73 #[.int .i64 op,.int .i64 vs,.slice HA rs.length hc,.int .i64 Z0,.slice none 0 0,.slice none 0 0,.slice none 0 0]:=(by rw [hw3];exact Z6.new2 _ _ _ _);have HB3:=Z9 HB2 hb3;go_wp2;rw [<- hw3];have HW3:=hide hw3;clear hw3;obtain ⟨q,hq⟩:=eE (w2.heap.size+1);rw [<- hq] at Q3 ⊢;obtain ⟨C,hC⟩:=eE w3.heap.size;obtain ⟨pl,hpl⟩:=eE (bs.drop N);have Ap:pl.length=bs.length - N:=(by rw [hpl,List.length_drop]);have hqe:w2.heap.size+1<=q/\q<=w2.heap.size+1:=(by omega);have hCe:w3.heap.size<=C/\C<=w3.heap.size:=(by omega);clear hq hC;have hBP:∀ k,k<w.heap.size->PD C q q k:=fun k hk=>by have:=HB2.size;unfold PD;omega
   have xM:=hide hBP;have tO:=hide Ap;have Nq:=hide hpl;have HSL:=hide hsl;have hcb:=J5 HK.out;obtain ⟨zxj,zxk,zph,hcP,hcQ⟩:=hcb;clear hBP Ap hpl hsl
   -- the rows of points that are read,in a world that keeps what was there
   have hrp:∀ (w':World),Below w.heap.size w w'->∀ at_ n step:Nat,step<=100->16<=step->at_+n*step<=bs.length ->
    Calls prog 78 #[.slice A bs.length c,.int .i64 (at_:Int),.int .i64 (n:Int),.int .i64 (step:Int)] w' (Pointed (WZ bs at_ step n) w') :=
    fun w' hb at_ n step h1 h2 h3=>BL bs A c w' ((HS.out.below hb).more hb.size) Lr.out (by omega) at_ n step h1 h2 h3
   have HRP:=hide hrp;clear hrp;have hnS:∀ k,YV (rs.take k)<=YV rs:=SS rs;have HNS:=hide hnS;clear hnS
   go_loopw [6,9] (fun at_ i wr=>∃ (k:Nat) (gs:List Gr) (v:Value),k<=rs.length/\i=.int .i64 k/\at_=.int .i64 ((N+16*YV (rs.take k):Nat):Int)/\Z8 (PD C q q) w3 wr/\Z6 wr q 73 #[.int .i64 op,.int .i64 vs,.slice HA rs.length hc,.int .i64 Z0,v,.slice none 0 0,.slice none 0 0] /\
    QI wr C gs v/\gs.map PU=XK (rs.take k) pl/\gs.length=k)
    (fun _ i _=>rs.length - (intOf i).toNat)
   case atStart=>exact ⟨0,[],.slice none 0 0,by omega,rfl,by simp [YV],Z8.refl _ _,Q3,QI.nil _ _,rfl,rfl⟩
   case round =>
    obtain ⟨k,gs,v,hk,rfl,rfl,hkp,Aq,hqi,hgd,hgl⟩:=hrel;have HGD:=hide hgd;clear hgd;have gI:=hide hqi;clear hqi;have Hr:=H3.kept hkp (by unfold PD;omega);have h2:=Hr.q2 rfl
    by_cases hlt:k<rs.length
    · obtain ⟨r,hr⟩:∃ r,rs[k]?=some r:=⟨_,List.getElem?_eq_getElem hlt⟩;obtain ⟨Fa,hoff,rfl,mJ,d0,d1,d2⟩:=HSL.out.rg hr;have hPh:PD C q q Fa:=(by unfold PD;omega);have c0:=((hkp.cell hPh _).trans (hb3.cell (p:=⟨Fa,_,none⟩) mJ)).trans d0;have c1:=((hkp.cell hPh _).trans (hb3.cell (p:=⟨Fa,_,none⟩) mJ)).trans d1;have c2:=((hkp.cell hPh _).trans (hb3.cell (p:=⟨Fa,_,none⟩) mJ)).trans d2;clear d0 d1 d2;obtain ⟨wx,hwx⟩:=eE (wr.alloc (.cells #[.bool r.d,.int .i64 r.v,.slice r.A r.n r.c] 61));have hbx:=bE hwx;have X0:Z6 wx wr.heap.size 61 #[.bool r.d,.int .i64 r.v,.slice r.A r.n r.c]:=(by rw [hwx];exact Z6.new _ _ _);have hzx:wx.heap.size=wr.heap.size+1:=(by rw [hwx];simp);have hCr:C<=wr.heap.size:=Nat.le_trans hCe.2 hkp.size;have E8:=hide (Iz rs k r hr);have mZ:=hide (Rt rs pl k r hr);have gF:=hide (SS rs (k+1));clear hr;have x1:=X0.q1 rfl;have zgr:Fa<wr.heap.size:=Zv c0;have hkl:(k:Int)<(rs.length:Int):=(by omega);go_wp2_with fail;rw [<- hwx];have HWX:=hide hwx;clear hwx;refine (Xp r.v wx).mono ?_;rintro e w5 ⟨rfl,rfl⟩;rw [<- Tf];have Aj:=Ph r.v;have hsn:=E8.out;have hnl:=gF.out;have RP:=HRP.out wx ((HB3.trans (hkp.below xM.out)).trans (hbx.mono (by have:=HB3.size;have:=hkp.size;omega))) (N+16*YV (rs.take k)) (Zg r.v) 16 (by omega) (by omega) (by omega);have G8:=hide RP;clear RP x1;go_wp2_with fail;refine G8.out.mono ?_;rintro e w6 ⟨N8,pc,rfl,k6,rC⟩;rw [IX,<- List.drop_drop,<- Nq.out] at rC;rw [XJ];rw [YT] at rC;have s6:Sl w6 w6.heap.size N8 (Zc (Xm (pl.drop (16*YV (rs.take k))) (Zg r.v))):=Sl.YI rC
      have f6:∀ x,N8=some x->wx.heap.size<=x.block:=fun x hx=>by
       subst hx;exact ZP rC rfl
      have zoe:wr.heap.size<wx.heap.size:=(by omega);have vR:=Aq.lt;have zkq:=k6.size;have hch:∀ b',b'<wr.heap.size->w6.heap[b']?=wr.heap[b']?:=fun b' h1=>(k6.block b' (by omega)).trans (hbx.block b' h1);have X6:Z6 w6 wr.heap.size 61 #[.bool r.d,.int .i64 r.v,.slice r.A r.n r.c]:=X0.step k6;have X7:Z6 (w6.setCell ⟨wr.heap.size,2,none⟩ (.slice N8 (Zg r.v) pc)) wr.heap.size 61 #[.bool r.d,.int .i64 r.v,.slice N8 (Zg r.v) pc]:=X6.set 2 _;have Q6:Z6 w6 q 73 #[.int .i64 op,.int .i64 vs,.slice (some ⟨Fa,hoff,none⟩) rs.length hc,.int .i64 Z0,v,.slice none 0 0,.slice none 0 0]:=(hch q vR).trans Aq;have Q7:=Q6.far (p:=⟨wr.heap.size,2,none⟩) (by simp;omega) (.slice N8 (Zg r.v) pc);have Ag:∀ b',b'<wr.heap.size->(w6.setCell ⟨wr.heap.size,2,none⟩ (.slice N8 (Zg r.v) pc)).heap[b']?=wr.heap[b']?:=fun b' h1=>(Below.heap_setCell w6 ⟨wr.heap.size,2,none⟩ _ b' (by simp;omega)).trans (hch b' h1);have hz7:(w6.setCell ⟨wr.heap.size,2,none⟩ (.slice N8 (Zg r.v) pc)).heap.size=w6.heap.size:=World.size_setCell _ _ _;have QI7:QI (w6.setCell ⟨wr.heap.size,2,none⟩ (.slice N8 (Zg r.v) pc)) C gs v:=gI.out.move (by omega) fun b' h1 h2=>Ag b' h2;have s7:=s6.far (p:=⟨wr.heap.size,2,none⟩) (fun _ x hx=>by have:=f6 x hx;simp;omega) (.slice N8 (Zg r.v) pc);have y2:=X6.q2 rfl;have fz2:=X6.frozen 2
      have hnew:∀ x,N8=some x->C<=x.block/\v.ownBlock≠some x.block:=fun x hx=>by
       have h1:=f6 x hx;refine ⟨by omega,fun e=>?_⟩;have:=SX gI.out.1 e;omega
      have zvz:=hide hnew;have zvt:=hide Ag;have HS7:=hide s7;have mY:=hide QI7;have Yy:=QI7.1;rw [hgl] at Yy;clear hnew hch Ag s7 s6 QI7 f6 G8 rC;have kxx:N+16*YV (rs.take k)+16*Zg r.v=N+16*YV (rs.take (k+1)):=(by omega);have zvx:=hide kxx;clear kxx;obtain ⟨w7,hw7⟩:=eE (w6.setCell ⟨wr.heap.size,2,none⟩ (.slice N8 (Zg r.v) pc));rw [<- hw7] at X7 Q7 hz7 zvt HS7 mY Yy;have zxl:=hw7.symm;have y0:=X7.q0 rfl;have y1:=X7.q1 rfl;have y2':=X7.q2 rfl;have q4:=Q7.q4 rfl;obtain ⟨i0,hi,hi0,hi1,hi2⟩:=info_parts QM;have aM:w6.heap.size<=w7.heap.size/\w7.heap.size<=w6.heap.size:=(by omega);have k17:Z8 (PD C q q) wr w7:=by
       have k1:Z8 (PD C q q) wr w6:=(Z8.of_below hbx (fun k hk=>by unfold PD at hk;omega)).trans (Z8.of_below k6 (fun k hk=>by unfold PD at hk;omega));rw [hw7];exact k1.trans (Z8.set (by unfold PD;omega) 2 _ _)
      have K17:=hide k17;clear hw7 hz7 k17 h2;have hC7:C<=w7.heap.size:=(by omega);go_wp2_with (at_builtin;refine wpList_append_lies _ rfl (.tmp 51) (.tmp 53) 22 rfl C 61 i0 (.agg #[.bool false,.int .i64 0,.slice none 0 0]) 3 40 underlying22 hi hi0 hi1 hi2 rfl (by decide) v k _ rfl (ZO Yy (bA)) ⟨w7.heap.size,0,none⟩ 1 1 [.bool r.d,.int .i64 r.v,.slice N8 (Zg r.v) pc] rfl rfl ?a1 ?a2 ?a3 ?a4 ?a5 ?a6 (w7.heap.size+1) ?a7 ?_)
      case a1=>exact ZI (Z6.new _ _ _)
      case a2=>simp [Value.oneCell']
      case a3=>omega
      case a4=>unfold maxLen;omega
      case a5=>omega
      case a6=>simp;omega
      case a7=>simp
      intro g' cap w8 Xk ZL hat NI;have MO:Below w7.heap.size w7 (w7.alloc (.cells #[.bool r.d,.int .i64 r.v,.slice N8 (Zg r.v) pc] 61)):=bA
      have oK:QI w8 C (gs++[(⟨r.d,r.v,N8,Zg r.v,pc⟩,Xm (pl.drop (16*YV (rs.take k))) (Zg r.v))]) (.slice (some ⟨g',0,none⟩) (k+1) cap) :=
       yR mY.out MO Xk (by simp [hgl]) (by simp [rgCells,Rg.cells]) ZL (by simpa using hat) ⟨(YT _ _).symm,HS7.out.more aM.1,fun _=>zvz.out⟩
      have hgb:∀ b',b'<C->(w8.heap[b']?=w7.heap[b']?):=fun b' hb'=>by
       refine (ZL.block b' (by simp;omega) (fun e=>?_)).trans (MO.block b' (by omega));have:=ZP Yy e.symm;omega
      have Q8:Z6 w8 q 73 #[.int .i64 op,.int .i64 vs,.slice (some ⟨Fa,hoff,none⟩) rs.length hc,.int .i64 Z0,v,.slice none 0 0,.slice none 0 0]:=(hgb q (by omega)).trans Q7;have hz8:w7.heap.size<=w8.heap.size:=Nat.le_trans MO.size ZL.size
      have K8:Z8 (PD C q q) wr w8 :=
       K17.out.trans ⟨ZL.os.trans MO.os,ZL.tape.trans MO.tape,ZL.output.trans MO.output,hz8,fun b' hb'=>hgb b' hb'.1⟩
      have zwd:=hide oK;have HK8:=hide K8;have p4:=Q8.q4 rfl;have fz4:=Q8.frozen 4;have m1:IntKind.i64.wrap (16*(Zg r.v:Int))=16*(Zg r.v:Int):=(by rw [IntKind.wrap_i64];omega);clear oK K8 hgb Xk ZL q4 y0 y1 y2 y2' zxl;go_wp2;go_roundw
      case rel =>
       refine ⟨k+1,_,_,by omega,by go_num,by congr 1;have:=zvx.out;omega,hkp.trans (HK8.out.trans (Z8.set (by unfold PD;omega) 4 _ _)),Q8.set 4 _,
        zwd.out.move (by simp [World.size_setCell]) (fun b' h1 h2=>Below.heap_setCell w8 ⟨q,4,none⟩ _ b' (by simp;omega)),?_,by simp [hgl]⟩
       rw [List.map_append,HGD.out,mZ.out];rfl
      case measure=>simp [intOf];omega
    · obtain rfl:rs.length=k:=(by omega);rw [List.take_length] at HGD;rw [List.take_length];obtain ⟨np,hnp⟩:=Int.eq_ofNat_of_zero_le Sg;obtain ⟨mq,iU⟩:=Int.eq_ofNat_of_zero_le dZ;rw [hnp] at hlen hPQ hcP;rw [iU] at hlen hPQ hcQ;have CN:=M7 op vs Z0 wr zxj zxk HA rs.length hc;rw [hnp,iU] at CN;have HCN:=hide CN;have HPQ:=hide hPQ;have Rr:=(R2.step hb3).kept hkp (by have:=HB2.size;unfold PD;omega);have h0:=Hr.q0 rfl;have h1:=Hr.q1 rfl;have h3:=Hr.q3 rfl;have Sb:=hide hnp;have dJ:=hide iU;have vR:=Aq.lt;have hkz:=hkp.size;have zjn:=HB2.size;have Un:=HB3.trans (hkp.below xM.out);have tJ:=hide Un;clear CN hPQ hnp iU Sg dZ oJ Un;obtain ⟨at_,hat⟩:=eE (N+16*YV rs);rw [<- hat];have zgi:N+16*YV rs<=at_/\at_<=N+16*YV rs:=(by omega);have HAT:=hide hat;clear hat;obtain ⟨gs0,hgs0⟩:=eE gs;go_wp2_with fail;refine HCN.out.mono ?_;rintro e CG ⟨rfl,Uv⟩;have aL:=Uv.size;have zmk:=tJ.out.trans (Uv.mono (by have:=tJ.out.size;omega));have RP:=HRP.out CG zmk at_ np 16 (by omega) (by omega) (by omega);have G8:=hide RP;clear RP h0 h1 h2 h3;go_wp2_with fail;refine G8.out.mono ?_;rintro e JK ⟨A1,pc1,rfl,oQ,Eb⟩;have HCAP:Hid (np<=pc1):=by
       obtain ⟨_,_,hh,h⟩:=ZJ Eb;cases hh;rw [XJ] at h;exact h
      rw [IX,HAT.out,<- List.drop_drop,<- Nq.out,YT] at Eb;rw [XJ];have s11:Sl JK JK.heap.size A1 (Zc (Xm (pl.drop (16*YV rs)) np)):=Sl.YI Eb;have f11:∀ x,A1=some x->CG.heap.size<=x.block:=fun x hx=>by subst hx;exact ZP Eb rfl
      have zqk:=oQ.size;have dS:=(Aq.step Uv).step oQ;have R11:=(Rr.step Uv).step oQ;have q5:=dS.q5 rfl;have fz5:=dS.frozen 5;obtain ⟨Fg,Qs⟩:=eE (JK.setCell ⟨q,5,none⟩ (.slice A1 np pc1));have Q12:Z6 Fg q 73 #[.int .i64 op,.int .i64 vs,.slice HA rs.length hc,.int .i64 Z0,v,.slice A1 np pc1,.slice none 0 0]:=(by rw [Qs];exact dS.set 5 _);have R12:=R11.far (p:=⟨q,5,none⟩) (by simp;omega) (.slice A1 np pc1);rw [<- Qs] at R12;have zku:JK.heap.size<=Fg.heap.size/\Fg.heap.size<=JK.heap.size:=(by rw [Qs,World.size_setCell];omega);have E12:Hid (∀ b',b'≠q->Fg.heap[b']?=JK.heap[b']?):=hide fun b' hb'=>by rw [Qs];exact Below.heap_setCell JK ⟨q,5,none⟩ _ b' hb'
      have K12:Hid (Z8 (PD C q q) JK Fg):=(by apply hide;rw [Qs];exact Z8.set (by unfold PD;omega) 5 _ _);have pV:=Qs.symm;have uo:=(zmk.trans (oQ.mono (by omega))).trans (K12.out.below xM.out);have RQ:=HRP.out Fg uo at_ mq 24 (by omega) (by omega) (by omega);have HTQ:=hide RQ;clear RQ Qs Eb q5;have q5:=dS.q5 rfl;go_wp2_with fail;refine HTQ.out.mono ?_;rintro e Lj ⟨A3,pc3,rfl,oU,yL⟩;rw [XJ];rw [XJ] at yL;have s13:Sl Lj Lj.heap.size A3 (Zc (WZ bs at_ 24 mq)):=Sl.YI yL;have f13:∀ x,A3=some x->Fg.heap.size<=x.block:=fun x hx=>by subst hx;exact ZP yL rfl
      have zkv:=oU.size;have Q13:=Q12.step oU;have R13:=R12.step oU;have zvr:=uo.trans (oU.mono (by omega));have Jj:=hide s13;clear pV yL s13 HTQ G8 q5;have hqz:q<Lj.heap.size:=(by omega);have znr:∀ k,k<w.heap.size->PD Lj.heap.size q q k:=fun k hk=>by unfold PD;omega
      have zml:=hide znr;clear znr;go_wp2
      go_loopw [15] (fun i wr2=>∃ (k:Nat) (v2:Value),k<=mq/\i=.int .i64 k/\Z8 (PD Lj.heap.size q q) Lj wr2/\Z6 wr2 q 73 #[.int .i64 op,.int .i64 vs,.slice HA rs.length hc,.int .i64 Z0,v,.slice A1 np pc1,v2] /\
       wr2.ownsRow Lj.heap.size 127 3 v2 k (Vs (WU (pl.drop (16*YV rs)) k)))
       (fun i _=>mq - (intOf i).toNat)
      case atStart=>exact ⟨0,.slice none 0 0,by omega,rfl,Z8.refl _ _,Q13,World.ownsRow_nil _ _ _ _⟩
      case round =>
       obtain ⟨k,v2,hk2,rfl,NH,NM,ZQ⟩:=hrel;have zgy:=NH.size
       by_cases hlt2:k<mq
       · obtain ⟨b3,zhv,rfl,znx,c0,c1⟩:=Jj.out.pt (Bq bs at_ 24 hlt2);obtain ⟨x,hx⟩:=eE ((OV bs at_ 24 k).1);obtain ⟨y,hy⟩:=eE ((OV bs at_ 24 k).2);rw [<- hx] at c0;rw [<- hy] at c1;obtain ⟨id,hid⟩:=eE (le ((bs.drop (at_+24*k+16)).take 8));have PW:VQ (pl.drop (16*YV rs)) k=((x,y),id):=by
          rw [Nq.out,List.drop_drop,<- HAT.out,rM,hx,hy,hid];rfl
         have hsn:WU (pl.drop (16*YV rs)) (k+1)=WU (pl.drop (16*YV rs)) k++[((x,y),id)]:=by
          rw [<- PW];simp [WU,List.range_succ]
         have zny:b3≠q:=(by have:=f13 _ rfl;dsimp only at this;omega);have zns:PD Lj.heap.size q q b3:=⟨znx,zny,zny⟩;have c0':=(NH.cell zns _).trans c0;have c1':=(NH.cell zns _).trans c1;have W:=Qb bs A c wr.heap.size wr.drew ((((HS.out.below zvr).kept NH zml.out).more (by have:=zvr.size;omega))) Lr.out (by omega) (at_+24*k+16) (by omega);rw [<- hid] at W;rw [show ((at_+24*k+16:Nat):Int)=(at_:Int)+24*(k:Int)+16 by omega] at W;have HW:=hide W;have E8:=hide hsn;obtain ⟨i0,hi,hi0,hi1,hi2⟩:=info_parts yS;have q6:=NM.q6 rfl;have fz6:=NM.frozen 6;have hne:some q≠v2.ownBlock:=own_ne ZQ hqz;have m1:IntKind.i64.wrap (24*(k:Int))=24*(k:Int):=(by rw [IntKind.wrap_i64];omega);have m2:IntKind.i64.wrap ((at_:Int)+24*(k:Int))=(at_:Int)+24*(k:Int):=(by rw [IntKind.wrap_i64];omega);have m3:IntKind.i64.wrap ((at_:Int)+24*(k:Int)+16)=(at_:Int)+24*(k:Int)+16:=(by rw [IntKind.wrap_i64];omega);have hkq:(k:Int)<(mq:Int):=(by omega);have hk0:(0:Int)<=(k:Int):=(by omega);have zpc:=NM.lt;clear hx hy hid PW hsn W c0 c1;go_wp2
         go_region_law (first
          | (refine step_append_lies _ (by rfl) (.tmp 80) (.tmp 93) 71 (by rfl) Lj.heap.size 127 i0 (.agg #[.int .i64 0,.int .i64 0,.int .u64 0]) 3 24 underlying71 hi hi0 hi1 hi2 (by rfl) (by decide) v2 _ _ (by rfl) (ZO ZQ (ZV (bA))) ⟨wr.heap.size,0,none⟩ 1 1 [.int .i64 x,.int .i64 y,.int .u64 id] (by rfl) (by rfl) (ZI (Z6.new _ _ _).drew) (by simp [Value.oneCell']) (by omega) (by unfold maxLen;omega) (by omega) (by simp;omega) (wr.heap.size+1) (by simp) ?_;intro g' cap w1 Zn ZL hat hlt';have d1:=(World.grownBy.cell_far ZL ⟨q,6,none⟩ (by simp;omega) hne).trans (((ZV (bA):Below wr.heap.size wr _).cell (p:=⟨q,6,none⟩) zpc).trans q6);have f1:=(World.grownBy.frozen_far ZL ⟨q,6,none⟩ (by simp;omega) hne).trans (((ZV (bA):Below wr.heap.size wr _).frozen (p:=⟨q,6,none⟩) zpc).trans fz6))
          | (go_simp;go_at_call 80;refine HW.out.mono ?_;rintro e w' ⟨rfl,rfl⟩))
         all_goals
          have MO:=(ZV (bA):Below wr.heap.size wr (wr.alloc (.cells #[.int .i64 x,.int .i64 y,.int .u64 id] 127)).drew)
          have hgb:∀ b',b'<Lj.heap.size->w1.heap[b']?=wr.heap[b']?:=fun b' hb'=>by
           refine (ZL.block b' (by have:=MO.size;omega) (fun e=>?_)).trans (MO.block b' (by omega));have:=ZP ZQ e.symm;omega
          have hz1:wr.heap.size<=w1.heap.size:=Nat.le_trans MO.size ZL.size;have Q1:=gM NM (hgb q hqz);have K1:Z8 (PD Lj.heap.size q q) wr w1:=⟨ZL.os.trans MO.os,ZL.tape.trans MO.tape,ZL.output.trans MO.output,hz1,fun b' hb'=>hgb b' hb'.1⟩;have Zj:w1.ownsRow Lj.heap.size 127 3 (.slice (some ⟨g',0,none⟩) (k+1) cap) (k+1) (Vs (WU (pl.drop (16*YV rs)) (k+1))):=by
           rw [E8.out,wQ];exact Zn
          have Np:=hide K1;have HO2:=hide Zj;clear K1 Zj Zn ZL hgb;go_wp2;go_roundw
          case rel=>exact ⟨k+1,_,by omega,by go_num,NH.trans (Np.out.trans (Z8.set (by unfold PD;omega) 6 _ _)),Q1.set 6 _,LU HO2.out (by have:=ZP (k:=g') HO2.out rfl;simp [Value.ownBlock];omega) _⟩
          case measure=>simp [intOf];omega
       · obtain rfl:mq=k:=(by omega);clear hkz;have Qd:=R13.kept NH ⟨by omega,by omega,by omega⟩;obtain ⟨QA,qc,rfl,_⟩:=ZJ ZQ;obtain ⟨GA,gc,rfl,_⟩:=ZJ gI.out.1;have q0:=NM.q0 rfl;have q1:=NM.q1 rfl;have q2:=NM.q2 rfl;have q3:=NM.q3 rfl;have q4:=NM.q4 rfl;have q5:=NM.q5 rfl;have q6:=NM.q6 rfl;have r0:=Qd.q0 rfl;have r1:=Qd.q1 rfl;have r2:=Qd.q2 rfl;have r3:=Qd.q3 rfl;have r4:=Qd.q4 rfl;have r5:=Qd.q5 rfl;have r6:=Qd.q6 rfl;have g0:=Qd.frozen 0;have g1:=Qd.frozen 1;have g2:=Qd.frozen 2;have g3:=Qd.frozen 3;have g4:=Qd.frozen 4;have g5:=Qd.frozen 5;have g6:=Qd.frozen 6;have zij:=zvr.trans (NH.below zml.out);have HOWN:=hide ZQ;have zit:=hide NH;have zfy:=hide NM;clear ZQ NM;go_wp2;clear q0 q1 q2 q3 q4 q5 q6 r0 r1 r2 r3 r4 r5 r6 g0 g1 g2 g3 g4 g5 g6;obtain ⟨e0,e1,e2,e3,e4,e5,e6⟩:=Te Qd (.int .i64 op) (.int .i64 vs) (.slice HA rs.length hc) (.int .i64 Z0) (.slice GA rs.length gc) (.slice A1 np pc1) (.slice QA mq qc);rw [HD.out];refine bodyPost_ret (v:=.tuple #[.agg #[.int .i64 op,.int .i64 vs,.slice HA rs.length hc,.int .i64 Z0,.slice GA rs.length gc,.slice A1 np pc1,.slice QA mq qc],.int .i64 0]) (by simp [results,Tryz.results39,go_sem,e0,e1,e2,e3,e4,e5,e6]) rfl ?_;clear e0 e1 e2 e3 e4 e5 e6;obtain ⟨W,hW⟩:=eE (JG wr w.heap.size (.int .i64 op) (.int .i64 vs) (.slice HA rs.length hc) (.int .i64 Z0) (.slice GA rs.length gc) (.slice A1 np pc1) (.slice QA mq qc));have hWz:wr.heap.size<=W.heap.size:=(by rw [hW,Je];exact Nat.le_refl _);have eW:∀ b',b'≠w.heap.size->W.heap[b']?=wr.heap[b']?:=fun b' hb'=>by rw [hW];exact EI wr _ _ _ _ _ _ _ _ b' hb'
         have hBW:Below w.heap.size w W:=(by rw [hW];exact Td zij (Nat.le_refl _) _ _ _ _ _ _ _);have e11:∀ b',b'<JK.heap.size->b'≠q->b'≠w.heap.size->W.heap[b']?=JK.heap[b']?:=fun b' h1 h2 h4=>(eW b' h4).trans ((zit.out.block b' ⟨by omega,h2,h2⟩).trans ((oU.block b' (by omega)).trans (E12.out b' h2)));have er:=fun b' h1 h2 h4=>(e11 b' (Nat.lt_of_lt_of_le h1 (Nat.le_trans aL zqk)) h2 h4).trans ((oQ.block b' (Nat.lt_of_lt_of_le h1 aL)).trans (Uv.block b' h1));have QIW:QI W C gs (.slice GA gs.length gc):=gI.out.move (by omega) fun b' h1 h2=>er b' h2 (by omega) (by omega)
         have zxg:Sl W w2.heap.size HA (rgCells rs):=HSL.out.at_ fun b' h1 hx x hA hxb=>by
          refine (er b' (by omega) (by omega) ?_).trans ((hkp.block b' (by unfold PD;omega)).trans (hb3.block b' h1));subst hxb;intro e;exact yK hx HSL.out hA (by rw [e];exact R2)
         have bS:Sl W JK.heap.size A1 (Zc (Xm (pl.drop (16*YV rs)) np)):=s11.at_ fun b' h1 hx x hA hxb=>by
          have:=f11 x hA;subst hxb;exact e11 _ h1 (by omega) (by omega)
         have zlc:W.ownsRow Lj.heap.size 127 3 (.slice QA mq qc) mq (Vs (WU (pl.drop (16*YV rs)) mq)):=yM HOWN.out fun k hk=>eW k (by have:=ZP HOWN.out hk;omega);show Ob (Uc ⟨op,vs,rs,Z0⟩ (bs.drop N),0) w _ (JG wr w.heap.size _ _ _ _ _ _ _);rw [<- hW];clear hW;have hps:(Uc ⟨op,vs,rs,Z0⟩ (bs.drop N)).ps=Xm (pl.drop (16*YV rs)) np:=by
          show Xm _ (Xu op vs).toNat=_;rw [Sb.out,<- Nq.out];rfl
         have Qh:(Uc ⟨op,vs,rs,Z0⟩ (bs.drop N)).qs=WU (pl.drop (16*YV rs)) mq:=by
          show WU _ (WX op Z0).toNat=_;rw [dJ.out,<- Nq.out];rfl
         refine ⟨rs,HA,hc,gs,GA,gc,A1,pc1,QA,qc,?_,hBW,?_,by rw [hps,YT];exact HCAP.out⟩
         · unfold Nj;dsimp only;rw [hps,Qh,YT,VI,hgl];rfl
         · refine ⟨zxg.more (by omega),rfl,Sl.YI QIW.1,QIW.iF,?_,?_,?_⟩
           · rw [HGD.out,Nq.out];rfl
           · dsimp only;rw [hps];exact bS.more (by omega)
           · dsimp only;rw [Qh];exact Sl.YI zlc
 · have hne:(cl != 0)=true:=(by simpa using hc0);rw [if_neg hc0] at HD;have RN:=hide CL;clear CL PA hpe hcl hc0 hby Oz hs;go_enter func39,ntmps39;go_wp2_with fail;rw [<- hw0];have HW0:=hide hw0;clear hw0;refine RN.out.mono ?_;rintro e w1 ⟨rfl,hb1⟩;have R1:=R0.step hb1;have r0:=R1.q0 rfl;have r1:=R1.q1 rfl;have r2:=R1.q2 rfl;have r3:=R1.q3 rfl;have r4:=R1.q4 rfl;have r5:=R1.q5 rfl;have r6:=R1.q6 rfl;have f0:=R1.frozen 0;have f1:=R1.frozen 1;have f2:=R1.frozen 2;have f3:=R1.frozen 3;have f4:=R1.frozen 4;have f5:=R1.frozen 5;have f6:=R1.frozen 6;go_wp2;obtain ⟨e0,e1,e2,e3,e4,e5,e6⟩:=Te R1 (.int .i64 0) (.int .i64 0) (.slice none 0 0) (.int .i64 0) (.slice none 0 0) (.slice none 0 0) (.slice none 0 0);rw [HD.out];exact bodyPost_ret (v:=.tuple #[.agg #[.int .i64 0,.int .i64 0,.slice none 0 0,.int .i64 0,.slice none 0 0,.slice none 0 0,.slice none 0 0],.int .i64 cl]) (by simp [results,Tryz.results39,go_sem,e0,e1,e2,e3,e4,e5,e6]) rfl (Oo (Td (Z9 hb0 hb1) (Nat.le_refl _) _ _ _ _ _ _ _))
end
end
end Go.Proofs.YtfljlmleiggmjaaGreatDoor