/- RefClassify RefDecode -/
import Derived.Deep.RegionLaw
import Derived.Test.YthnenedoblncjaaGreatDoorPkA10
set_option maxRecDepth 1000000
set_option maxHeartbeats 8000000
namespace Go.Proofs.YthnenedoblncjaaGreatDoor
open Go.Proofs.Tryz
section
open Go.RowKit
section
variable (bs:List Int)(A:Option Addr)(c:Nat)(w:World)
variable (hs:Sl w w.heap.size A (ZY bs))(hby:∀ (j:Nat) (x:Int),bs[j]?=some x->0<=x/\x<=255)
include hs hby
theorem KN :
 Calls prog 106 #[.slice A bs.length c] w fun e w'=>e=.returned (.int .i64 (YX bs))/\Below w.heap.size w w':=by
 have hpb:=Ao (ZX bs).1.op (ZX bs).1.vs (ZX bs).1.rs (ZX bs).1.Z0;have hnb:=LV bs;have hok:=JV bs;obtain ⟨v,hv⟩:=eE (YX bs);unfold YX at hv;rw [show YX bs=v from by rw [hv];rfl];have P:=Mv bs A c w hs hby;revert P hv hok hpb hnb;generalize ZX bs=r;obtain ⟨⟨op,vs,rs,Z0⟩,n,er⟩:=r;intro hpb hnb hok hv P;simp only at hpb hnb hv;have hok':er=0->ZT op vs rs Z0=0:=hok;have UQ:=hide hok';clear hok hok';have HV:=hide hv;clear hv;have HP:=hide P;clear P;have HPB:=hide hpb;clear hpb;have aG:=hide hnb;clear hnb;go_enter func106,ntmps106;go_wp2_with fail;refine HP.out.mono ?_;rintro e w1 ⟨A1,c1,rfl,hsl,hb1⟩;simp only at hsl
 by_cases he:er=0
 · subst he;go_wp2_with fail;refine (Jj op vs Z0 rs A1 c1 _ ((hsl.below (bA)).more (by simp)) (UQ.out trivial)).mono ?_;rintro e w2 ⟨rfl,hb2⟩;obtain ⟨zpq,zpr⟩:=HPB.out;obtain ⟨zpo,zpp⟩:=aG.out
   by_cases hq:(bs.length:Int)=n+hpay op vs rs Z0
   · have hq':((bs.length:Int) != n+hpay op vs rs Z0)=false:=(by rw [bne_eq_false_iff_eq];exact hq);have HQ:=hide hq;clear hq;go_wp2;go_ret;exact ⟨Y3 (by rw [HV.out,if_pos trivial,if_pos HQ.out]),Z9 (Z7 hb1 _) hb2⟩
   · have hq':((bs.length:Int) != n+hpay op vs rs Z0)=true:=(by rw [bne_iff_ne];exact hq);have HQ:=hide hq;clear hq;go_wp2;go_ret;exact ⟨Y3 (by rw [HV.out,if_pos trivial,if_neg HQ.out]),Z9 (Z7 hb1 _) hb2⟩
 · have he':(er == 0)=false:=(by simpa using he);have HE:=hide he;clear he;go_wp2;go_ret;exact ⟨Y3 (by rw [HV.out,if_neg HE.out]),Z7 hb1 _⟩
end
end
section
open Go.RowKit
theorem U1(bs:List Int)(a k:Nat):eight (bs.drop a) k=eight bs (a+k):=by unfold eight;rw [List.drop_drop]
theorem Kg(bs:List Int)(a n:Nat):Xx bs a 16 n=XL (bs.drop a) n:=by
 unfold Xx XL
 congr 1
 funext i
 unfold Qk UM;rw [U1,U1,show a+i*16=a+16*i by omega,show a+16*i+8=a+(16*i+8) by omega]
theorem vS(bs:List Int)(a i:Nat):Ws (bs.drop a) i=(Qk bs a 24 i,le (eight bs (a+24*i+16))):=by
 unfold Ws Qk;rw [U1,U1,U1,show a+i*24=a+24*i by omega,show a+24*i+8=a+(24*i+8) by omega,show a+24*i+16=a+(24*i+16) by omega]
theorem Dt(bs:List Int)(a step:Nat){n i:Nat}(h:i<n):(Xx bs a step n)[i]?=some (Qk bs a step i):=by simp [Xx,h]
theorem zo(qs:List ((Int × Int) × Int))(r:(Int × Int) × Int):Wt (qs++[r])=Wt qs++[.int .i64 r.1.1,.int .i64 r.1.2,.int .u64 r.2]:=by simp [Wt]
theorem lF{w w':World}{g:Nat}{t:TypeId}{cs:Array Value}(h:Z6 w g t cs)(e:w'.heap[g]?=w.heap[g]?):Z6 w' g t cs:=e.trans h
section
variable (bs:List Int)(A:Option Addr)(c:Nat)(w:World)
variable (hs:Sl w w.heap.size A (ZY bs))(hby:By bs)(hmax:bs.length<=300000)
include hs hby hmax
theorem Oq:Calls prog 60 #[.slice A bs.length c] w (Py (Zr bs) w):=by
 obtain ⟨w0,hw0⟩:=eE (w.alloc (.cells #[.int .i64 0,.int .i64 0,.slice none 0 0,.int .i64 0,.slice none 0 0,.slice none 0 0,.slice none 0 0] 55));have hb0:=bE hw0;have hz0:w0.heap.size=w.heap.size+1:=by rw [hw0];simp
 have R0:Z6 w0 w.heap.size 55 #[.int .i64 0,.int .i64 0,.slice none 0 0,.int .i64 0,.slice none 0 0,.slice none 0 0,.slice none 0 0]:=by rw [hw0];exact Z6.new _ _ _
 have Ih:∀ (j:Nat) (x:Int),bs[j]?=some x->0<=x/\x<=255:=fun j x h=>hby x (List.mem_of_getElem? h);have CL:=KN bs A c w0 ((hs.below hb0).more hb0.size) Ih;have PA:∀ w1,Below w0.heap.size w0 w1->Calls prog 107 #[.slice A bs.length c] w1 (Parsed (ZX bs) w1):=fun w1 h1=>Mv bs A c w1 (((hs.below hb0).below (h1.mono hb0.size)).more (Nat.le_trans hb0.size h1.size)) Ih;obtain ⟨cl,hcl⟩:∃ cl,YX bs=cl:=⟨_,rfl⟩;rw [hcl] at CL;obtain ⟨h,n,er,hpe⟩:∃ h n er,ZX bs=(h,n,er):=⟨_,_,_,rfl⟩;rw [hpe] at PA;have HD:Hid (Zr bs=if cl=0 then (UF h (bs.drop n.toNat),0) else (Yx,cl)):=by apply hide;unfold Zr;rw [hcl,hpe]
 by_cases hc0:cl=0
 · subst hc0;have DF:=Ud hpe hcl;obtain ⟨rfl,hk,hn0,hn1,Pw,jU,hPQ,sP,hlen⟩:=DF;obtain ⟨op,vs,rs,Z0⟩:=h;dsimp only at hk Pw jU hPQ sP hlen;obtain ⟨N,rfl⟩:=Int.eq_ofNat_of_zero_le hn0;rw [if_pos rfl,Int.toNat_natCast] at HD;have OE:=hide CL;have G8:=hide PA;have HK:=hide hk;have MP:=hide hpe;have zoe:=hide hcl;have Pp:=hide hby;have HS:=hide hs;clear CL PA hpe hcl hby Ih hk hs;go_enter func60,ntmps60;go_wp2_with fail;rw [<- hw0];have HW0:=hide hw0;clear hw0;refine OE.out.mono ?_;rintro e w1 ⟨rfl,hb1⟩;have PA1:=G8.out w1 hb1;clear G8 OE;have G8:=hide PA1;clear PA1;go_wp2_with fail;refine G8.out.mono ?_;rintro e w2 ⟨HA,hc,rfl,hsl,hb2⟩;clear G8;have R2:=(R0.step hb1).step hb2;have HB2:=Z9 (Z9 hb0 hb1) hb2;dsimp only at hsl ⊢;obtain ⟨w3,hw3⟩:=eE ((w2.alloc (.cells #[.int .i64 op,.int .i64 vs,.slice HA rs.length hc,.int .i64 Z0] 53)).alloc (.cells #[.int .i64 op,.int .i64 vs,.slice HA rs.length hc,.int .i64 Z0,.slice none 0 0,.slice none 0 0,.slice none 0 0] 55));have hb3:=bF hw3;have hz3:w3.heap.size=w2.heap.size+2:=(by rw [hw3];simp);have H3:Z6 w3 w2.heap.size 53 #[.int .i64 op,.int .i64 vs,.slice HA rs.length hc,.int .i64 Z0]:=(by rw [hw3];exact (Z6.new _ _ _).alloc _);have Q3:Z6 w3 (w2.heap.size+1) 55 #[.int .i64 op,.int .i64 vs,.slice HA rs.length hc,.int .i64 Z0,.slice none 0 0,.slice none 0 0,.slice none 0 0]:=(by rw [hw3];exact Z6.new2 _ _ _ _);have HB3:=Z9 HB2 hb3;go_wp2;rw [<- hw3];have HW3:=hide hw3;clear hw3;obtain ⟨q,hq⟩:=eE (w2.heap.size+1);rw [<- hq] at Q3 ⊢;obtain ⟨C,hC⟩:=eE w3.heap.size;obtain ⟨pl,hpl⟩:=eE (bs.drop N);have CJ:pl.length=bs.length - N:=(by rw [hpl,List.length_drop]);have hqe:w2.heap.size+1<=q/\q<=w2.heap.size+1:=(by omega);have hCe:w3.heap.size<=C/\C<=w3.heap.size:=(by omega);clear hq hC;have hBP:∀ k,k<w.heap.size->PD C q q k:=fun k hk=>by have:=HB2.size;unfold PD;omega
   have zX:=hide hBP;have wY:=hide CJ;have OH:=hide hpl;have HSL:=hide hsl;have hcb:=Lj HK.out;obtain ⟨dA,dB,ztw,hcP,hcQ⟩:=hcb;clear hBP CJ hpl hsl
   -- the rows of points that are read,in a world that keeps what was there
   have hrp:∀ (w':World),Below w.heap.size w w'->∀ at_ n step:Nat,step<=100->16<=step->at_+n*step<=bs.length ->
    Calls prog 108 #[.slice A bs.length c,.int .i64 (at_:Int),.int .i64 (n:Int),.int .i64 (step:Int)] w' (Pointed (Xx bs at_ step n) w') :=
    fun w' hb at_ n step h1 h2 h3=>DU bs A c w' ((HS.out.below hb).more hb.size) Pp.out (by omega) at_ n step h1 h2 h3
   have HRP:=hide hrp;clear hrp;have hnS:∀ k,Y8 (rs.take k)<=Y8 rs:=TL rs;have HNS:=hide hnS;clear hnS
   go_loopw [6,9] (fun at_ i wr=>∃ (k:Nat) (gs:List Gr) (v:Value),k<=rs.length/\i=.int .i64 k/\at_=.int .i64 ((N+16*Y8 (rs.take k):Nat):Int)/\Z8 (PD C q q) w3 wr/\Z6 wr q 55 #[.int .i64 op,.int .i64 vs,.slice HA rs.length hc,.int .i64 Z0,v,.slice none 0 0,.slice none 0 0] /\
    QI wr C gs v/\gs.map QM=Yd (rs.take k) pl/\gs.length=k)
    (fun _ i _=>rs.length - (intOf i).toNat)
   case atStart=>exact ⟨0,[],.slice none 0 0,by omega,rfl,by simp [Y8],Z8.refl _ _,Q3,QI.nil _ _,rfl,rfl⟩
   case round =>
    obtain ⟨k,gs,v,hk,rfl,rfl,hkp,CK,hqi,hgd,hgl⟩:=hrel;have aB:=hide hgd;clear hgd;have lq:=hide hqi;clear hqi;have Hr:=H3.kept hkp (by unfold PD;omega);have h2:=Hr.q2 rfl
    by_cases hlt:k<rs.length
    · obtain ⟨r,hr⟩:∃ r,rs[k]?=some r:=⟨_,List.getElem?_eq_getElem hlt⟩;obtain ⟨GZ,hoff,rfl,qF,d0,d1,d2⟩:=HSL.out.rg hr;have hPh:PD C q q GZ:=(by unfold PD;omega);have c0:=((hkp.cell hPh _).trans (hb3.cell (p:=⟨GZ,_,none⟩) qF)).trans d0;have c1:=((hkp.cell hPh _).trans (hb3.cell (p:=⟨GZ,_,none⟩) qF)).trans d1;have c2:=((hkp.cell hPh _).trans (hb3.cell (p:=⟨GZ,_,none⟩) qF)).trans d2;clear d0 d1 d2;obtain ⟨wx,hwx⟩:=eE (wr.alloc (.cells #[.bool r.d,.int .i64 r.v,.slice r.A r.n r.c] 38));have hbx:=bE hwx;have X0:Z6 wx wr.heap.size 38 #[.bool r.d,.int .i64 r.v,.slice r.A r.n r.c]:=(by rw [hwx];exact Z6.new _ _ _);have hzx:wx.heap.size=wr.heap.size+1:=(by rw [hwx];simp);have hCr:C<=wr.heap.size:=Nat.le_trans hCe.2 hkp.size;have Bw:=hide (J5 rs k r hr);have qW:=hide (SH rs pl k r hr);have HNL:=hide (TL rs (k+1));clear hr;have x1:=X0.q1 rfl;have zmf:GZ<wr.heap.size:=Zv c0;have hkl:(k:Int)<(rs.length:Int):=(by omega);go_wp2_with fail;rw [<- hwx];have HWX:=hide hwx;clear hwx;refine (XO r.v wx).mono ?_;rintro e w5 ⟨rfl,rfl⟩;rw [<- TU];have cB:=Qq r.v;have hsn:=Bw.out;have hnl:=HNL.out;have RP:=HRP.out wx ((HB3.trans (hkp.below zX.out)).trans (hbx.mono (by have:=HB3.size;have:=hkp.size;omega))) (N+16*Y8 (rs.take k)) (Zk r.v) 16 (by omega) (by omega) (by omega);have Ep:=hide RP;clear RP x1;go_wp2_with fail;refine Ep.out.mono ?_;rintro e w6 ⟨Pq,pc,rfl,k6,vL⟩;rw [Kg,<- List.drop_drop,<- OH.out] at vL;rw [Yc];rw [Y7] at vL;have s6:Sl w6 w6.heap.size Pq (Zg (XL (pl.drop (16*Y8 (rs.take k))) (Zk r.v))):=Sl.Xw vL
      have f6:∀ x,Pq=some x->wx.heap.size<=x.block:=fun x hx=>by
       subst hx;exact ZG vL rfl
      have zsw:wr.heap.size<wx.heap.size:=(by omega);have tX:=CK.lt;have zqb:=k6.size;have hch:∀ b',b'<wr.heap.size->w6.heap[b']?=wr.heap[b']?:=fun b' h1=>(k6.block b' (by omega)).trans (hbx.block b' h1);have X6:Z6 w6 wr.heap.size 38 #[.bool r.d,.int .i64 r.v,.slice r.A r.n r.c]:=X0.step k6;have X7:Z6 (w6.setCell ⟨wr.heap.size,2,none⟩ (.slice Pq (Zk r.v) pc)) wr.heap.size 38 #[.bool r.d,.int .i64 r.v,.slice Pq (Zk r.v) pc]:=X6.set 2 _;have Q6:Z6 w6 q 55 #[.int .i64 op,.int .i64 vs,.slice (some ⟨GZ,hoff,none⟩) rs.length hc,.int .i64 Z0,v,.slice none 0 0,.slice none 0 0]:=(hch q tX).trans CK;have Q7:=Q6.far (p:=⟨wr.heap.size,2,none⟩) (by simp;omega) (.slice Pq (Zk r.v) pc);have Cv:∀ b',b'<wr.heap.size->(w6.setCell ⟨wr.heap.size,2,none⟩ (.slice Pq (Zk r.v) pc)).heap[b']?=wr.heap[b']?:=fun b' h1=>(Below.heap_setCell w6 ⟨wr.heap.size,2,none⟩ _ b' (by simp;omega)).trans (hch b' h1);have hz7:(w6.setCell ⟨wr.heap.size,2,none⟩ (.slice Pq (Zk r.v) pc)).heap.size=w6.heap.size:=World.size_setCell _ _ _;have bB:QI (w6.setCell ⟨wr.heap.size,2,none⟩ (.slice Pq (Zk r.v) pc)) C gs v:=lq.out.move (by omega) fun b' h1 h2=>Cv b' h2;have s7:=s6.far (p:=⟨wr.heap.size,2,none⟩) (fun _ x hx=>by have:=f6 x hx;simp;omega) (.slice Pq (Zk r.v) pc);have y2:=X6.q2 rfl;have fz2:=X6.frozen 2
      have hnew:∀ x,Pq=some x->C<=x.block/\v.ownBlock≠some x.block:=fun x hx=>by
       have h1:=f6 x hx;refine ⟨by omega,fun e=>?_⟩;have:=TN lq.out.1 e;omega
      have aH:=hide hnew;have ak:=hide Cv;have aP:=hide s7;have qV:=hide bB;have Yg:=bB.1;rw [hgl] at Yg;clear hnew hch Cv s7 s6 bB f6 Ep vL;have kxx:N+16*Y8 (rs.take k)+16*Zk r.v=N+16*Y8 (rs.take (k+1)):=(by omega);have aD:=hide kxx;clear kxx;obtain ⟨w7,hw7⟩:=eE (w6.setCell ⟨wr.heap.size,2,none⟩ (.slice Pq (Zk r.v) pc));rw [<- hw7] at X7 Q7 hz7 ak aP qV Yg;have dF:=hw7.symm;have y0:=X7.q0 rfl;have y1:=X7.q1 rfl;have y2':=X7.q2 rfl;have q4:=Q7.q4 rfl;obtain ⟨i0,hi,hi0,hi1,hi2⟩:=info_parts RU;have iA:w6.heap.size<=w7.heap.size/\w7.heap.size<=w6.heap.size:=(by omega);have k17:Z8 (PD C q q) wr w7:=by
       have k1:Z8 (PD C q q) wr w6:=(Z8.of_below hbx (fun k hk=>by unfold PD at hk;omega)).trans (Z8.of_below k6 (fun k hk=>by unfold PD at hk;omega));rw [hw7];exact k1.trans (Z8.set (by unfold PD;omega) 2 _ _)
      have K17:=hide k17;clear hw7 hz7 k17 h2;have hC7:C<=w7.heap.size:=(by omega);go_wp2_with (at_builtin;refine wpList_append_lies _ rfl (.tmp 51) (.tmp 53) 32 rfl C 38 i0 (.agg #[.bool false,.int .i64 0,.slice none 0 0]) 3 40 underlying32 hi hi0 hi1 hi2 rfl (by decide) v k _ rfl (ZH Yg (bA)) ⟨w7.heap.size,0,none⟩ 1 1 [.bool r.d,.int .i64 r.v,.slice Pq (Zk r.v) pc] rfl rfl ?a1 ?a2 ?a3 ?a4 ?a5 ?a6 (w7.heap.size+1) ?a7 ?_)
      case a1=>exact ZF (Z6.new _ _ _)
      case a2=>simp [Value.oneCell']
      case a3=>omega
      case a4=>unfold maxLen;omega
      case a5=>omega
      case a6=>simp;omega
      case a7=>simp
      intro g' cap w8 XJ ZQ hat OZ;have N8:Below w7.heap.size w7 (w7.alloc (.cells #[.bool r.d,.int .i64 r.v,.slice Pq (Zk r.v) pc] 38)):=bA
      have sQ:QI w8 C (gs++[(⟨r.d,r.v,Pq,Zk r.v,pc⟩,XL (pl.drop (16*Y8 (rs.take k))) (Zk r.v))]) (.slice (some ⟨g',0,none⟩) (k+1) cap) :=
       AU qV.out N8 XJ (by simp [hgl]) (by simp [rgCells,Rg.cells]) ZQ (by simpa using hat) ⟨(Y7 _ _).symm,aP.out.more iA.1,fun _=>aH.out⟩
      have hgb:∀ b',b'<C->(w8.heap[b']?=w7.heap[b']?):=fun b' hb'=>by
       refine (ZQ.block b' (by simp;omega) (fun e=>?_)).trans (N8.block b' (by omega));have:=ZG Yg e.symm;omega
      have Q8:Z6 w8 q 55 #[.int .i64 op,.int .i64 vs,.slice (some ⟨GZ,hoff,none⟩) rs.length hc,.int .i64 Z0,v,.slice none 0 0,.slice none 0 0]:=(hgb q (by omega)).trans Q7;have hz8:w7.heap.size<=w8.heap.size:=Nat.le_trans N8.size ZQ.size
      have K8:Z8 (PD C q q) wr w8 :=
       K17.out.trans ⟨ZQ.os.trans N8.os,ZQ.tape.trans N8.tape,ZQ.output.trans N8.output,hz8,fun b' hb'=>hgb b' hb'.1⟩
      have aK:=hide sQ;have HK8:=hide K8;have p4:=Q8.q4 rfl;have fz4:=Q8.frozen 4;have m1:IntKind.i64.wrap (16*(Zk r.v:Int))=16*(Zk r.v:Int):=(by rw [IntKind.wrap_i64];omega);clear sQ K8 hgb XJ ZQ q4 y0 y1 y2 y2' dF;go_wp2;go_roundw
      case rel =>
       refine ⟨k+1,_,_,by omega,by go_num,by congr 1;have:=aD.out;omega,hkp.trans (HK8.out.trans (Z8.set (by unfold PD;omega) 4 _ _)),Q8.set 4 _,
        aK.out.move (by simp [World.size_setCell]) (fun b' h1 h2=>Below.heap_setCell w8 ⟨q,4,none⟩ _ b' (by simp;omega)),?_,by simp [hgl]⟩
       rw [List.map_append,aB.out,qW.out];rfl
      case measure=>simp [intOf];omega
    · obtain rfl:rs.length=k:=(by omega);rw [List.take_length] at aB;rw [List.take_length];obtain ⟨np,hnp⟩:=Int.eq_ofNat_of_zero_le Pw;obtain ⟨mq,mo⟩:=Int.eq_ofNat_of_zero_le jU;rw [hnp] at hlen hPQ hcP;rw [mo] at hlen hPQ hcQ;have CN:=Oo op vs Z0 wr dA dB HA rs.length hc;rw [hnp,mo] at CN;have HCN:=hide CN;have HPQ:=hide hPQ;have Rr:=(R2.step hb3).kept hkp (by have:=HB2.size;unfold PD;omega);have h0:=Hr.q0 rfl;have h1:=Hr.q1 rfl;have h3:=Hr.q3 rfl;have Tq:=hide hnp;have jE:=hide mo;have tX:=CK.lt;have hkz:=hkp.size;have zpc:=HB2.size;have UO:=HB3.trans (hkp.below zX.out);have qN:=hide UO;clear CN hPQ hnp mo Pw jU sP UO;obtain ⟨at_,hat⟩:=eE (N+16*Y8 rs);rw [<- hat];have zlu:N+16*Y8 rs<=at_/\at_<=N+16*Y8 rs:=(by omega);have HAT:=hide hat;clear hat;obtain ⟨gs0,hgs0⟩:=eE gs;go_wp2_with fail;refine HCN.out.mono ?_;rintro e GX ⟨rfl,Vu⟩;have iy:=Vu.size;have zri:=qN.out.trans (Vu.mono (by have:=qN.out.size;omega));have RP:=HRP.out GX zri at_ np 16 (by omega) (by omega) (by omega);have Ep:=hide RP;clear RP h0 h1 h2 h3;go_wp2_with fail;refine Ep.out.mono ?_;rintro e KY ⟨A1,pc1,rfl,Fx,F5⟩;have HCAP:Hid (np<=pc1):=by
       obtain ⟨_,_,hh,h⟩:=Zl F5;cases hh;rw [Yc] at h;exact h
      rw [Kg,HAT.out,<- List.drop_drop,<- OH.out,Y7] at F5;rw [Yc];have s11:Sl KY KY.heap.size A1 (Zg (XL (pl.drop (16*Y8 rs)) np)):=Sl.Xw F5;have f11:∀ x,A1=some x->GX.heap.size<=x.block:=fun x hx=>by subst hx;exact ZG F5 rfl
      have zuy:=Fx.size;have jO:=(CK.step Vu).step Fx;have R11:=(Rr.step Vu).step Fx;have q5:=jO.q5 rfl;have fz5:=jO.frozen 5;obtain ⟨Kw,Rp⟩:=eE (KY.setCell ⟨q,5,none⟩ (.slice A1 np pc1));have Q12:Z6 Kw q 55 #[.int .i64 op,.int .i64 vs,.slice HA rs.length hc,.int .i64 Z0,v,.slice A1 np pc1,.slice none 0 0]:=(by rw [Rp];exact jO.set 5 _);have R12:=R11.far (p:=⟨q,5,none⟩) (by simp;omega) (.slice A1 np pc1);rw [<- Rp] at R12;have zqf:KY.heap.size<=Kw.heap.size/\Kw.heap.size<=KY.heap.size:=(by rw [Rp,World.size_setCell];omega);have E12:Hid (∀ b',b'≠q->Kw.heap[b']?=KY.heap[b']?):=hide fun b' hb'=>by rw [Rp];exact Below.heap_setCell KY ⟨q,5,none⟩ _ b' hb'
      have K12:Hid (Z8 (PD C q q) KY Kw):=(by apply hide;rw [Rp];exact Z8.set (by unfold PD;omega) 5 _ _);have uh:=Rp.symm;have xD:=(zri.trans (Fx.mono (by omega))).trans (K12.out.below zX.out);have RQ:=HRP.out Kw xD at_ mq 24 (by omega) (by omega) (by omega);have HTQ:=hide RQ;clear RQ Rp F5 q5;have q5:=jO.q5 rfl;go_wp2_with fail;refine HTQ.out.mono ?_;rintro e MK ⟨A3,pc3,rfl,sZ,AB⟩;rw [Yc];rw [Yc] at AB;have s13:Sl MK MK.heap.size A3 (Zg (Xx bs at_ 24 mq)):=Sl.Xw AB;have f13:∀ x,A3=some x->Kw.heap.size<=x.block:=fun x hx=>by subst hx;exact ZG AB rfl
      have zqg:=sZ.size;have Q13:=Q12.step sZ;have R13:=R12.step sZ;have zzx:=xD.trans (sZ.mono (by omega));have Bu:=hide s13;clear uh AB s13 HTQ Ep q5;have hqz:q<MK.heap.size:=(by omega);have zsk:∀ k,k<w.heap.size->PD MK.heap.size q q k:=fun k hk=>by unfold PD;omega
      have zrj:=hide zsk;clear zsk;go_wp2
      go_loopw [15] (fun i wr2=>∃ (k:Nat) (v2:Value),k<=mq/\i=.int .i64 k/\Z8 (PD MK.heap.size q q) MK wr2/\Z6 wr2 q 55 #[.int .i64 op,.int .i64 vs,.slice HA rs.length hc,.int .i64 Z0,v,.slice A1 np pc1,v2] /\
       wr2.ownsRow MK.heap.size 46 3 v2 k (Wt (Xp (pl.drop (16*Y8 rs)) k)))
       (fun i _=>mq - (intOf i).toNat)
      case atStart=>exact ⟨0,.slice none 0 0,by omega,rfl,Z8.refl _ _,Q13,World.ownsRow_nil _ _ _ _⟩
      case round =>
       obtain ⟨k,v2,hk2,rfl,OY,Pf,ZL⟩:=hrel;have zml:=OY.size
       by_cases hlt2:k<mq
       · obtain ⟨b3,znj,rfl,zsq,c0,c1⟩:=Bu.out.pt (Dt bs at_ 24 hlt2);obtain ⟨x,hx⟩:=eE ((Qk bs at_ 24 k).1);obtain ⟨y,hy⟩:=eE ((Qk bs at_ 24 k).2);rw [<- hx] at c0;rw [<- hy] at c1;obtain ⟨id,hid⟩:=eE (le ((bs.drop (at_+24*k+16)).take 8));have Ro:Ws (pl.drop (16*Y8 rs)) k=((x,y),id):=by
          rw [OH.out,List.drop_drop,<- HAT.out,vS,hx,hy,hid];rfl
         have hsn:Xp (pl.drop (16*Y8 rs)) (k+1)=Xp (pl.drop (16*Y8 rs)) k++[((x,y),id)]:=by
          rw [<- Ro];simp [Xp,List.range_succ]
         have zsr:b3≠q:=(by have:=f13 _ rfl;dsimp only at this;omega);have zsl:PD MK.heap.size q q b3:=⟨zsq,zsr,zsr⟩;have c0':=(OY.cell zsl _).trans c0;have c1':=(OY.cell zsl _).trans c1;have W:=QX bs A c wr.heap.size wr.drew ((((HS.out.below zzx).kept OY zrj.out).more (by have:=zzx.size;omega))) Pp.out (by omega) (at_+24*k+16) (by omega);rw [<- hid] at W;rw [show ((at_+24*k+16:Nat):Int)=(at_:Int)+24*(k:Int)+16 by omega] at W;have HW:=hide W;have Bw:=hide hsn;obtain ⟨i0,hi,hi0,hi1,hi2⟩:=info_parts AV;have q6:=Pf.q6 rfl;have fz6:=Pf.frozen 6;have hne:some q≠v2.ownBlock:=own_ne ZL hqz;have m1:IntKind.i64.wrap (24*(k:Int))=24*(k:Int):=(by rw [IntKind.wrap_i64];omega);have m2:IntKind.i64.wrap ((at_:Int)+24*(k:Int))=(at_:Int)+24*(k:Int):=(by rw [IntKind.wrap_i64];omega);have m3:IntKind.i64.wrap ((at_:Int)+24*(k:Int)+16)=(at_:Int)+24*(k:Int)+16:=(by rw [IntKind.wrap_i64];omega);have hkq:(k:Int)<(mq:Int):=(by omega);have hk0:(0:Int)<=(k:Int):=(by omega);have ztr:=Pf.lt;clear hx hy hid Ro hsn W c0 c1;go_wp2
         go_region_law (first
          | (refine step_append_lies _ (by rfl) (.tmp 80) (.tmp 93) 33 (by rfl) MK.heap.size 46 i0 (.agg #[.int .i64 0,.int .i64 0,.int .u64 0]) 3 24 underlying33 hi hi0 hi1 hi2 (by rfl) (by decide) v2 _ _ (by rfl) (ZH ZL (ZU (bA))) ⟨wr.heap.size,0,none⟩ 1 1 [.int .i64 x,.int .i64 y,.int .u64 id] (by rfl) (by rfl) (ZF (Z6.new _ _ _).drew) (by simp [Value.oneCell']) (by omega) (by unfold maxLen;omega) (by omega) (by simp;omega) (wr.heap.size+1) (by simp) ?_;intro g' cap w1 YN ZQ hat hlt';have d1:=(World.grownBy.cell_far ZQ ⟨q,6,none⟩ (by simp;omega) hne).trans (((ZU (bA):Below wr.heap.size wr _).cell (p:=⟨q,6,none⟩) ztr).trans q6);have f1:=(World.grownBy.frozen_far ZQ ⟨q,6,none⟩ (by simp;omega) hne).trans (((ZU (bA):Below wr.heap.size wr _).frozen (p:=⟨q,6,none⟩) ztr).trans fz6))
          | (go_simp;go_at_call 109;refine HW.out.mono ?_;rintro e w' ⟨rfl,rfl⟩))
         all_goals
          have N8:=(ZU (bA):Below wr.heap.size wr (wr.alloc (.cells #[.int .i64 x,.int .i64 y,.int .u64 id] 46)).drew)
          have hgb:∀ b',b'<MK.heap.size->w1.heap[b']?=wr.heap[b']?:=fun b' hb'=>by
           refine (ZQ.block b' (by have:=N8.size;omega) (fun e=>?_)).trans (N8.block b' (by omega));have:=ZG ZL e.symm;omega
          have hz1:wr.heap.size<=w1.heap.size:=Nat.le_trans N8.size ZQ.size;have Q1:=lF Pf (hgb q hqz);have K1:Z8 (PD MK.heap.size q q) wr w1:=⟨ZQ.os.trans N8.os,ZQ.tape.trans N8.tape,ZQ.output.trans N8.output,hz1,fun b' hb'=>hgb b' hb'.1⟩;have V6:w1.ownsRow MK.heap.size 46 3 (.slice (some ⟨g',0,none⟩) (k+1) cap) (k+1) (Wt (Xp (pl.drop (16*Y8 rs)) (k+1))):=by
           rw [Bw.out,zo];exact YN
          have Bl:=hide K1;have HO2:=hide V6;clear K1 V6 YN ZQ hgb;go_wp2;go_roundw
          case rel=>exact ⟨k+1,_,by omega,by go_num,OY.trans (Bl.out.trans (Z8.set (by unfold PD;omega) 6 _ _)),Q1.set 6 _,IB HO2.out (by have:=ZG (k:=g') HO2.out rfl;simp [Value.ownBlock];omega) _⟩
          case measure=>simp [intOf];omega
       · obtain rfl:mq=k:=(by omega);clear hkz;have QZ:=R13.kept OY ⟨by omega,by omega,by omega⟩;obtain ⟨QA,qc,rfl,_⟩:=Zl ZL;obtain ⟨GA,gc,rfl,_⟩:=Zl lq.out.1;have q0:=Pf.q0 rfl;have q1:=Pf.q1 rfl;have q2:=Pf.q2 rfl;have q3:=Pf.q3 rfl;have q4:=Pf.q4 rfl;have q5:=Pf.q5 rfl;have q6:=Pf.q6 rfl;have r0:=QZ.q0 rfl;have r1:=QZ.q1 rfl;have r2:=QZ.q2 rfl;have r3:=QZ.q3 rfl;have r4:=QZ.q4 rfl;have r5:=QZ.q5 rfl;have r6:=QZ.q6 rfl;have g0:=QZ.frozen 0;have g1:=QZ.frozen 1;have g2:=QZ.frozen 2;have g3:=QZ.frozen 3;have g4:=QZ.frozen 4;have g5:=QZ.frozen 5;have g6:=QZ.frozen 6;have znx:=zzx.trans (OY.below zrj.out);have HOWN:=hide ZL;have zoj:=hide OY;have zlk:=hide Pf;clear ZL Pf;go_wp2;clear q0 q1 q2 q3 q4 q5 q6 r0 r1 r2 r3 r4 r5 r6 g0 g1 g2 g3 g4 g5 g6;obtain ⟨e0,e1,e2,e3,e4,e5,e6⟩:=TT QZ (.int .i64 op) (.int .i64 vs) (.slice HA rs.length hc) (.int .i64 Z0) (.slice GA rs.length gc) (.slice A1 np pc1) (.slice QA mq qc);rw [HD.out];refine bodyPost_ret (v:=.tuple #[.agg #[.int .i64 op,.int .i64 vs,.slice HA rs.length hc,.int .i64 Z0,.slice GA rs.length gc,.slice A1 np pc1,.slice QA mq qc],.int .i64 0]) (by simp [results,Tryz.results60,go_sem,e0,e1,e2,e3,e4,e5,e6]) rfl ?_;clear e0 e1 e2 e3 e4 e5 e6;obtain ⟨W,hW⟩:=eE (KT wr w.heap.size (.int .i64 op) (.int .i64 vs) (.slice HA rs.length hc) (.int .i64 Z0) (.slice GA rs.length gc) (.slice A1 np pc1) (.slice QA mq qc));have hWz:wr.heap.size<=W.heap.size:=(by rw [hW,Kt];exact Nat.le_refl _);have eW:∀ b',b'≠w.heap.size->W.heap[b']?=wr.heap[b']?:=fun b' hb'=>by rw [hW];exact GD wr _ _ _ _ _ _ _ _ b' hb'
         have hBW:Below w.heap.size w W:=(by rw [hW];exact TS znx (Nat.le_refl _) _ _ _ _ _ _ _);have e11:∀ b',b'<KY.heap.size->b'≠q->b'≠w.heap.size->W.heap[b']?=KY.heap[b']?:=fun b' h1 h2 h4=>(eW b' h4).trans ((zoj.out.block b' ⟨by omega,h2,h2⟩).trans ((sZ.block b' (by omega)).trans (E12.out b' h2)));have er:=fun b' h1 h2 h4=>(e11 b' (Nat.lt_of_lt_of_le h1 (Nat.le_trans iy zuy)) h2 h4).trans ((Fx.block b' (Nat.lt_of_lt_of_le h1 iy)).trans (Vu.block b' h1));have QIW:QI W C gs (.slice GA gs.length gc):=lq.out.move (by omega) fun b' h1 h2=>er b' h2 (by omega) (by omega)
         have dn:Sl W w2.heap.size HA (rgCells rs):=HSL.out.at_ fun b' h1 hx x hA hxb=>by
          refine (er b' (by omega) (by omega) ?_).trans ((hkp.block b' (by unfold PD;omega)).trans (hb3.block b' h1));subst hxb;intro e;exact AA hx HSL.out hA (by rw [e];exact R2)
         have jg:Sl W KY.heap.size A1 (Zg (XL (pl.drop (16*Y8 rs)) np)):=s11.at_ fun b' h1 hx x hA hxb=>by
          have:=f11 x hA;subst hxb;exact e11 _ h1 (by omega) (by omega)
         have zqm:W.ownsRow MK.heap.size 46 3 (.slice QA mq qc) mq (Wt (Xp (pl.drop (16*Y8 rs)) mq)):=AJ HOWN.out fun k hk=>eW k (by have:=ZG HOWN.out hk;omega);show Py (UF ⟨op,vs,rs,Z0⟩ (bs.drop N),0) w _ (KT wr w.heap.size _ _ _ _ _ _ _);rw [<- hW];clear hW;have hps:(UF ⟨op,vs,rs,Z0⟩ (bs.drop N)).ps=XL (pl.drop (16*Y8 rs)) np:=by
          show XL _ (XT op vs).toNat=_;rw [Tq.out,<- OH.out];rfl
         have RL:(UF ⟨op,vs,rs,Z0⟩ (bs.drop N)).qs=Xp (pl.drop (16*Y8 rs)) mq:=by
          show Xp _ (WU op Z0).toNat=_;rw [jE.out,<- OH.out];rfl
         refine ⟨rs,HA,hc,gs,GA,gc,A1,pc1,QA,qc,?_,hBW,?_,by rw [hps,Y7];exact HCAP.out⟩
         · unfold OC;dsimp only;rw [hps,RL,Y7,Wj,hgl];rfl
         · refine ⟨dn.more (by omega),rfl,Sl.Xw QIW.1,QIW.l5,?_,?_,?_⟩
           · rw [aB.out,OH.out];rfl
           · dsimp only;rw [hps];exact jg.more (by omega)
           · dsimp only;rw [RL];exact Sl.Xw zqm
 · have hne:(cl != 0)=true:=(by simpa using hc0);rw [if_neg hc0] at HD;have OE:=hide CL;clear CL PA hpe hcl hc0 hby Ih hs;go_enter func60,ntmps60;go_wp2_with fail;rw [<- hw0];have HW0:=hide hw0;clear hw0;refine OE.out.mono ?_;rintro e w1 ⟨rfl,hb1⟩;have R1:=R0.step hb1;have r0:=R1.q0 rfl;have r1:=R1.q1 rfl;have r2:=R1.q2 rfl;have r3:=R1.q3 rfl;have r4:=R1.q4 rfl;have r5:=R1.q5 rfl;have r6:=R1.q6 rfl;have f0:=R1.frozen 0;have f1:=R1.frozen 1;have f2:=R1.frozen 2;have f3:=R1.frozen 3;have f4:=R1.frozen 4;have f5:=R1.frozen 5;have f6:=R1.frozen 6;go_wp2;obtain ⟨e0,e1,e2,e3,e4,e5,e6⟩:=TT R1 (.int .i64 0) (.int .i64 0) (.slice none 0 0) (.int .i64 0) (.slice none 0 0) (.slice none 0 0) (.slice none 0 0);rw [HD.out];exact bodyPost_ret (v:=.tuple #[.agg #[.int .i64 0,.int .i64 0,.slice none 0 0,.int .i64 0,.slice none 0 0,.slice none 0 0,.slice none 0 0],.int .i64 cl]) (by simp [results,Tryz.results60,go_sem,e0,e1,e2,e3,e4,e5,e6]) rfl (PS (TS (Z9 hb0 hb1) (Nat.le_refl _) _ _ _ _ _ _ _))
end
end
end Go.Proofs.YthnenedoblncjaaGreatDoor