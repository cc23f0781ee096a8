/- RefClassify Decode RefDecode -/
import Derived.Deep.RegionLaw
import Derived.Test.YthnenedoblncjaaGreatDoorPkR02
import Derived.Test.YthnenedoblncjaaGreatDoorPkR09
set_option maxRecDepth 1000000
set_option maxHeartbeats 8000000
namespace Go.Proofs.YthnenedoblncjaaGreatDoor
open Go.Proofs.Tryz
section
open Go.RowKit
section
variable (bs:List Int)(A:Option Addr)(c:Nat)(w:World)
variable (hs:Sl w w.heap.size A (ZU bs))(hby:∀ (j:Nat) (x:Int),bs[j]?=some x->0<=x/\x<=255)
include hs hby
theorem Ja :
 Calls prog 106 #[.slice A bs.length c] w fun e w'=>e=.returned (.int .i64 (Y7 bs))/\Below w.heap.size w w':=by
 have hpb:=uq (ZW bs).1.op (ZW bs).1.vs (ZW bs).1.rs (ZW bs).1.ZY;have hnb:=Kl bs;have hok:=GY bs;obtain ⟨v,hv⟩:=eE (Y7 bs);unfold Y7 at hv;rw [show Y7 bs=v from by rw [hv];rfl];have P:=KW bs A c w hs hby;revert P hv hok hpb hnb;generalize ZW bs=r;obtain ⟨⟨op,vs,rs,ZY⟩,n,er⟩:=r;intro hpb hnb hok hv P;simp only at hpb hnb hv;have hok':er=0->ZM op vs rs ZY=0:=hok;have Ud:=hide hok';clear hok hok';have HV:=hide hv;clear hv;have HP:=hide P;clear P;have HPB:=hide hpb;clear hpb;have HNB:=hide hnb;clear hnb;go_enter func106,ntmps106;go_wp2_with fail;refine HP.out.mono ?_;rintro e w1 ⟨A1,c1,rfl,hsl,hb1⟩;simp only at hsl
 by_cases he:er=0
 · subst he;go_wp2_with fail;refine (FP op vs ZY rs A1 c1 _ ((hsl.below (bA)).more (by simp)) (Ud.out trivial)).mono ?_;rintro e w2 ⟨rfl,hb2⟩;obtain ⟨zcx,zcy⟩:=HPB.out;obtain ⟨zcv,zcw⟩:=HNB.out
   by_cases hq:(bs.length:Int)=n+hpay op vs rs ZY
   · have hq':((bs.length:Int) != n+hpay op vs rs ZY)=false:=(by rw [bne_eq_false_iff_eq];exact hq);have HQ:=hide hq;clear hq;go_wp2;go_ret;exact ⟨Zf (by rw [HV.out,if_pos trivial,if_pos HQ.out]),Z8 (Z5 hb1 _) hb2⟩
   · have hq':((bs.length:Int) != n+hpay op vs rs ZY)=true:=(by rw [bne_iff_ne];exact hq);have HQ:=hide hq;clear hq;go_wp2;go_ret;exact ⟨Zf (by rw [HV.out,if_pos trivial,if_neg HQ.out]),Z8 (Z5 hb1 _) hb2⟩
 · have he':(er == 0)=false:=(by simpa using he);have HE:=hide he;clear he;go_wp2;go_ret;exact ⟨Zf (by rw [HV.out,if_neg HE.out]),Z5 hb1 _⟩
end
end
section
open Go.RowKit
theorem uL {w:World} {B:Nat} {A:Option Addr} {rs:List Rg} {x:Addr} {t:TypeId} {a b c:Int} {A1 A2 A3 A4:Option Addr} {n1 n2 n3 n4 c1 c2 c3 c4:Nat} (hx:rgCells rs≠[]) (h:Sl w B A (rgCells rs)) (hA:A=some x)
 (hb:Z7 w x.block t #[.int .i64 a,.int .i64 b,.slice A1 n1 c1,.int .i64 c,.slice A2 n2 c2,.slice A3 n3 c3,.slice A4 n4 c4]):False:=by
 cases rs with
 | nil=>exact hx rfl
 | cons r rs =>
   obtain ⟨b',off,hA',hlt,c0,_⟩:=h.rg (k:=0) (r:=r) rfl;rw [hA'] at hA;cases hA;have hcell:=cell_of_row w b' (off+0*3) _ t (0,0) hb;rw [c0] at hcell;generalize off+0*3=i at hcell
   match i,hcell with
   | 0,h=>simp at h
   | 1,h=>simp at h
   | 2,h=>simp at h
   | 3,h=>simp at h
   | 4,h=>simp at h
   | 5,h=>simp at h
   | 6,h=>simp at h
   | i+7,h=>simp at h
section
variable (bs:List Int)(A:Option Addr)(c:Nat)(w:World)
variable (hs:Sl w w.heap.size A (ZU bs))(hcap:bs.length<=c)(hby:By bs)(hmax:bs.length<=300000)
variable (hfix:Fixed w)(hg:9<w.heap.size)
include hs hcap hby hmax hfix hg
theorem wH:Calls prog 164 #[.slice A bs.length c] w (Oa (Zr bs) w):=by
 obtain ⟨w0,hw0⟩:=eE (w.alloc (.cells #[.int .i64 0,.int .i64 0,.slice none 0 0,.int .i64 0,.slice none 0 0,.slice none 0 0,.slice none 0 0] 182));have hb0:=bE hw0;have hz0:w0.heap.size=w.heap.size+1:=by rw [hw0];simp
 have R0:Z7 w0 w.heap.size 182 #[.int .i64 0,.int .i64 0,.slice none 0 0,.int .i64 0,.slice none 0 0,.slice none 0 0,.slice none 0 0]:=by rw [hw0];exact Z7.new _ _ _
 have EH:∀ (j:Nat) (x:Int),bs[j]?=some x->0<=x/\x<=255:=fun j x h=>hby x (List.mem_of_getElem? h);have CL:=Er bs A c w0 ((hs.below hb0).more hb0.size) hcap EH (by omega) (hfix.below hb0 hg) (Nat.lt_of_lt_of_le hg hb0.size);have PA:∀ w1,Below w0.heap.size w0 w1->Calls prog 226 #[.slice A bs.length c] w1 (Parsed (ZW bs) w1):=fun w1 h1=>Hz bs A c w1 (((hs.below hb0).below (h1.mono hb0.size)).more (Nat.le_trans hb0.size h1.size)) hcap EH;obtain ⟨cl,hcl⟩:∃ cl,Y7 bs=cl:=⟨_,rfl⟩;rw [hcl] at CL;obtain ⟨h,n,er,hpe⟩:∃ h n er,ZW bs=(h,n,er):=⟨_,_,_,rfl⟩;rw [hpe] at PA;have HD:Hid (Zr bs=if cl=0 then (Um h (bs.drop n.toNat),0) else (XM,cl)):=by apply hide;unfold Zr;rw [hcl,hpe]
 by_cases hc0:cl=0
 · subst hc0;have DF:=TI hpe hcl;obtain ⟨rfl,hk,hn0,hn1,Sm,hQ0,hPQ,iD,hlen⟩:=DF;obtain ⟨op,vs,rs,ZY⟩:=h;dsimp only at hk Sm hQ0 hPQ iD hlen;obtain ⟨N,rfl⟩:=Int.eq_ofNat_of_zero_le hn0;rw [if_pos rfl,Int.toNat_natCast] at HD;have hcN:N<c:=(by omega);have hlN:N<bs.length:=(by omega);have yze:¬ c=N:=(by omega);obtain ⟨b,off,rfl,hbl,_⟩:=hs.RU (by omega);have IG:=hide CL;have Gb:=hide PA;have HK:=hide hk;have Lf:=hide hpe;have zbb:=hide hcl;have Uq:=hide hby;have HS:=hide hs;clear CL PA hpe hcl hfix hg hby EH hk hs;go_enter func164,ntmps164;go_wp2_with fail;rw [<- hw0];have HW0:=hide hw0;clear hw0;refine IG.out.mono ?_;rintro e w1 ⟨rfl,hb1⟩;have PA1:=Gb.out w1 hb1;clear Gb IG;have Gb:=hide PA1;clear PA1;go_wp2_with fail;refine Gb.out.mono ?_;rintro e w2 ⟨HA,hc,rfl,hsl,hb2⟩;clear Gb;have R2:=(R0.step hb1).step hb2;have HB2:=Z8 (Z8 hb0 hb1) hb2;dsimp only at hsl ⊢;have Kg:b<w2.heap.size:=(by have:=HB2.size;omega);obtain ⟨w3,hw3⟩:=eE (((w2.alloc (.cells #[.int .i64 op,.int .i64 vs,.slice HA rs.length hc,.int .i64 ZY] 53)).alloc (.cells #[.int .i64 op,.int .i64 vs,.slice HA rs.length hc,.int .i64 ZY,.slice none 0 0,.slice none 0 0,.slice none 0 0] 182)).alloc (.cells #[.slice (some ⟨b,off+N,none⟩) (bs.length - N) (c - N)] 264));have hb3:Below w2.heap.size w2 w3:=(by rw [hw3];exact Z5 (Z5 (bA) _) _);have hz3:w3.heap.size=w2.heap.size+3:=(by rw [hw3];simp);have H3:Z7 w3 w2.heap.size 53 #[.int .i64 op,.int .i64 vs,.slice HA rs.length hc,.int .i64 ZY]:=(by rw [hw3];exact ((Z7.new _ _ _).alloc _).alloc _);have Q3:Z7 w3 (w2.heap.size+1) 182 #[.int .i64 op,.int .i64 vs,.slice HA rs.length hc,.int .i64 ZY,.slice none 0 0,.slice none 0 0,.slice none 0 0]:=(by rw [hw3];exact (Z7.new2 _ _ _ _).alloc _);have G3:Z7 w3 (w2.heap.size+1+1) 264 #[.slice (some ⟨b,off+N,none⟩) (bs.length - N) (c - N)]:=by
    rw [hw3];have h:=Z7.new ((w2.alloc (.cells #[.int .i64 op,.int .i64 vs,.slice HA rs.length hc,.int .i64 ZY] 53)).alloc (.cells #[.int .i64 op,.int .i64 vs,.slice HA rs.length hc,.int .i64 ZY,.slice none 0 0,.slice none 0 0,.slice none 0 0] 182)) 264 #[.slice (some ⟨b,off+N,none⟩) (bs.length - N) (c - N)];simpa using h
   have HB3:=Z8 HB2 hb3;go_wp2;rw [<- hw3];have HW3:=hide hw3;clear hw3;obtain ⟨q,hq⟩:=eE (w2.heap.size+1);rw [<- hq] at Q3 G3 ⊢;obtain ⟨g,hgq⟩:=eE (q+1);rw [<- hgq] at G3 ⊢;obtain ⟨C,hC⟩:=eE w3.heap.size;obtain ⟨pl,hpl⟩:=eE (bs.drop N);have xR:pl.length=bs.length - N:=(by rw [hpl,List.length_drop]);have hBP:∀ k,k<w.heap.size->PD C q g k:=fun k hk=>by have:=HB2.size;unfold PD;omega
   have rs3:RS w3 (PD C q g) w.heap.size g pl:=by
    refine ⟨some ⟨b,off+N,none⟩,c - N,by rw [xR];exact G3,by unfold PD;omega,by rw [xR];omega,?_⟩;rcases HS.out with h0|⟨b1,off1,hA1,hlt1,hc1⟩
    · rw [List.eq_nil_of_length_eq_zero (show bs.length=0 by have:=congrArg List.length h0;simpa [ZU] using this)] at hlN;simp at hlN
    · injection hA1 with hA1;injection hA1 with e1 e2;subst e1 e2;refine Sl.mk hlt1 fun j u hu=>?_;have:=hc1 (N+j) u (by rw [hpl] at hu;simpa [ZU,Nat.add_comm] using hu);rw [<- Nat.add_assoc] at this;exact (HB3.cell (p:=⟨b,_,none⟩) hlt1).trans this
   have hqe:w2.heap.size+1<=q/\q<=w2.heap.size+1:=(by omega);have hge:q+1<=g/\g<=q+1:=(by omega);have hCe:w3.heap.size<=C/\C<=w3.heap.size:=(by omega);clear hq hgq hC;have HR3:=hide rs3;have sN:=hide hBP;have mR:=hide xR;have Nc:=hide hpl;have HSL:=hide hsl;have hcb:=JM HK.out;obtain ⟨zqu,zqv,zhw,hcP,hcQ⟩:=hcb;clear rs3 hBP xR hpl hsl
   go_loopw [36] (fun i wr=>∃ (k:Nat) (gs:List Gr) (v:Value),k<=rs.length/\i=.int .i64 k/\Z9 (PD C q g) w3 wr/\Z7 wr q 182 #[.int .i64 op,.int .i64 vs,.slice HA rs.length hc,.int .i64 ZY,v,.slice none 0 0,.slice none 0 0] /\
    RS wr (PD C q g) w.heap.size g (pl.drop (16*Zk (rs.take k)))/\QI wr C gs v/\gs.map Oq=Yg (rs.take k) pl/\gs.length=k)
    (fun i _=>rs.length - (intOf i).toNat)
   case atStart=>exact ⟨0,[],.slice none 0 0,by omega,rfl,Z9.refl _ _,Q3,by simpa [Zk] using HR3.out,QI.nil _ _,rfl,rfl⟩
   case round =>
    obtain ⟨k,gs,v,hk,rfl,hkp,nk,hrd,hqi,hgd,hgl⟩:=hrel;have HGD:=hide hgd;clear hgd;have HQI:=hide hqi;clear hqi;have HRD:=hide hrd;clear hrd
    by_cases hlt:k<rs.length
    · obtain ⟨r,hr⟩:∃ r,rs[k]?=some r:=⟨_,List.getElem?_eq_getElem hlt⟩;obtain ⟨zT,hoff,rfl,hhb,d0,d1,d2⟩:=HSL.out.rg hr;have hPh:PD C q g zT:=(by unfold PD;omega);have c0:=((hkp.cell hPh _).trans (hb3.cell (p:=⟨zT,_,none⟩) hhb)).trans d0;have c1:=((hkp.cell hPh _).trans (hb3.cell (p:=⟨zT,_,none⟩) hhb)).trans d1;have c2:=((hkp.cell hPh _).trans (hb3.cell (p:=⟨zT,_,none⟩) hhb)).trans d2;clear d0 d1 d2;obtain ⟨wx,hwx⟩:=eE (wr.alloc (.cells #[.bool r.d,.int .i64 r.v,.slice r.A r.n r.c] 38));have hbx:=bE hwx;have X0:Z7 wx wr.heap.size 38 #[.bool r.d,.int .i64 r.v,.slice r.A r.n r.c]:=(by rw [hwx];exact Z7.new _ _ _);have hzx:wx.heap.size=wr.heap.size+1:=(by rw [hwx];simp);have hCr:C<=wr.heap.size:=Nat.le_trans hCe.2 hkp.size;have vM:=hide (Hg rs k r hr);have HRG:=hide (Rv rs pl k r hr);have HNL:=hide (Tf rs (k+1));clear hr;have x0:=X0.q0 rfl;have x1:=X0.q1 rfl;have x2:=X0.q2 rfl;go_wp2_with fail;rw [<- hwx];have HWX:=hide hwx;clear hwx;refine (TT r.d r.v r.A r.n r.c wx).mono ?_;rintro e w5 ⟨rfl,hb5⟩;rw [<- Tv];have iR:=OX r.v;have hsn:=vM.out;have hnl:=HNL.out;have zhv:RS w5 (fun b=>b<w5.heap.size/\b≠g) w.heap.size g (pl.drop (16*Zk (rs.take k))):=by
       refine ((HRD.out.move fun b' hb'=>?_).chg (fun h=>h.2 rfl));have hl:b'<wr.heap.size:=by
        rcases hb' with h|h
        · have:=HB3.size;have:=hkp.size;omega
        · have:=nk.lt;omega
       exact ((hb5.mono hbx.size).block b' hl).trans (hbx.block b' hl)
      have TK:=K9 (fun b=>b<w5.heap.size/\b≠g) w.heap.size g w5 (fun k hk=>⟨by have:=HB3.size;have:=hkp.size;have:=hbx.size;have:=hb5.size;omega,by have:=HB2.size;omega⟩)
       (pl.drop (16*Zk (rs.take k))) (Zu r.v) (by rw [List.length_drop,mR.out];omega) (by rw [List.length_drop,mR.out];omega) (by rw [Nc.out];exact (Uq.out.drop _).drop _) (fun k hk=>hk.1) zhv
      have Lh:=hide TK;clear TK zhv x0 x1 x2;go_wp2_with fail;refine Lh.out.mono ?_;rintro e w6 ⟨NW,rfl,k6,r6,s6,f6⟩;have h56:=hb5.size;have zgu:wr.heap.size<w5.heap.size:=(by omega);have cZ:=nk.lt;have yzz:=HRD.out.lt;have zdi:=k6.size;have hch:∀ b',b'<wr.heap.size->b'≠g->w6.heap[b']?=wr.heap[b']?:=fun b' h1 h2=>(k6.block b' ⟨by omega,h2⟩).trans (((hb5.mono hbx.size).block b' h1).trans (hbx.block b' h1));have X6:Z7 w6 wr.heap.size 38 #[.bool r.d,.int .i64 r.v,.slice r.A r.n r.c]:=(X0.step hb5).kept k6 ⟨zgu,by omega⟩;have X7:Z7 (w6.setCell ⟨wr.heap.size,2,none⟩ (.slice NW (Zu r.v) (Zu r.v))) wr.heap.size 38 #[.bool r.d,.int .i64 r.v,.slice NW (Zu r.v) (Zu r.v)]:=X6.set 2 _;have Q6:Z7 w6 q 182 #[.int .i64 op,.int .i64 vs,.slice (some ⟨zT,hoff,none⟩) rs.length hc,.int .i64 ZY,v,.slice none 0 0,.slice none 0 0]:=(hch q cZ (by omega)).trans nk;have Q7:=Q6.far (p:=⟨wr.heap.size,2,none⟩) (by simp;omega) (.slice NW (Zu r.v) (Zu r.v));have xG:∀ b',b'<wr.heap.size->b'≠g->(w6.setCell ⟨wr.heap.size,2,none⟩ (.slice NW (Zu r.v) (Zu r.v))).heap[b']?=wr.heap[b']?:=fun b' h1 h2=>(Below.heap_setCell w6 ⟨wr.heap.size,2,none⟩ _ b' (by simp;omega)).trans (hch b' h1 h2);have hz7:(w6.setCell ⟨wr.heap.size,2,none⟩ (.slice NW (Zu r.v) (Zu r.v))).heap.size=w6.heap.size:=World.size_setCell _ _ _;have QI7:QI (w6.setCell ⟨wr.heap.size,2,none⟩ (.slice NW (Zu r.v) (Zu r.v))) C gs v:=HQI.out.move (by omega) fun b' h1 h2=>xG b' h2 (by omega);have s7:=s6.far (p:=⟨wr.heap.size,2,none⟩) (fun _ x hx=>by have:=(f6 x hx).1;simp;omega) (.slice NW (Zu r.v) (Zu r.v))
      have r7:RS (w6.setCell ⟨wr.heap.size,2,none⟩ (.slice NW (Zu r.v) (Zu r.v))) (PD C q g) w.heap.size g ((pl.drop (16*Zk (rs.take k))).drop (16*Zu r.v)) :=
       (r6.chg (R:=PD C q g) (fun h=>h.2.2 rfl)).far (by omega) (by unfold PD;omega) sN.out 2 _
      have y2:=X6.q2 rfl;have fz2:=X6.frozen 2
      have hnew:∀ x,NW=some x->C<=x.block/\v.ownBlock≠some x.block:=fun x hx=>by
       have h1:=(f6 x hx).1;refine ⟨by omega,fun e=>?_⟩;have:=KF HQI.out.1 e;omega
      have zoq:=hide hnew;have zol:=hide xG;have HS7:=hide s7;have HR7:=hide r7;have eF:=hide QI7;have XU:=QI7.1;rw [hgl] at XU;clear hnew hch xG s7 s6 r7 r6 QI7 f6 Lh;have kxx:(16*Zk (rs.take k))+16*Zu r.v=16*Zk (rs.take (k+1)):=(by omega);have zop:=hide kxx;clear kxx;obtain ⟨w7,hw7⟩:=eE (w6.setCell ⟨wr.heap.size,2,none⟩ (.slice NW (Zu r.v) (Zu r.v)));rw [<- hw7] at X7 Q7 hz7 zol HS7 HR7 eF XU;have zqw:=hw7.symm;have y0:=X7.q0 rfl;have y1:=X7.q1 rfl;have y2':=X7.q2 rfl;have q4:=Q7.q4 rfl;obtain ⟨i0,hi,hi0,hi1,hi2⟩:=info_parts QT;have zug:w6.heap.size<=w7.heap.size/\w7.heap.size<=w6.heap.size:=(by omega);have k17:Z9 (PD C q g) wr w7:=by
       have k1:Z9 (PD C q g) wr w6:=(Z9.of_below hbx (fun k hk=>by unfold PD at hk;omega)).trans ((Z9.of_below hb5 (fun k hk=>by unfold PD at hk;omega)).trans (k6.mono fun k hk=>by unfold PD at hk;omega));rw [hw7];exact k1.trans (Z9.set (by unfold PD;omega) 2 _ _)
      have K17:=hide k17;clear hw7 hz7 k17;have hC7:C<=w7.heap.size:=(by omega);go_wp2_with (at_builtin;refine wpList_append_lies _ rfl (.tmp 47) (.tmp 49) 32 rfl C 38 i0 (.agg #[.bool false,.int .i64 0,.slice none 0 0]) 3 40 underlying32 hi hi0 hi1 hi2 rfl (by decide) v k _ rfl (ZI XU (bA)) ⟨w7.heap.size,0,none⟩ 1 1 [.bool r.d,.int .i64 r.v,.slice NW (Zu r.v) (Zu r.v)] rfl rfl ?a1 ?a2 ?a3 ?a4 ?a5 ?a6 (w7.heap.size+1) ?a7 ?_)
      case a1=>exact ZB (Z7.new _ _ _)
      case a2=>simp [Value.oneCell']
      case a3=>omega
      case a4=>unfold maxLen;omega
      case a5=>omega
      case a6=>simp;omega
      case a7=>simp
      intro g' cap w8 ME ZL hat zct;have MB:Below w7.heap.size w7 (w7.alloc (.cells #[.bool r.d,.int .i64 r.v,.slice NW (Zu r.v) (Zu r.v)] 38)):=bA
      have iE:QI w8 C (gs++[(⟨r.d,r.v,NW,Zu r.v,Zu r.v⟩,XV (pl.drop (16*Zk (rs.take k))) (Zu r.v))]) (.slice (some ⟨g',0,none⟩) (k+1) cap) :=
       uT eF.out MB ME (by simp [hgl]) (by simp [rgCells,Rg.cells]) ZL (by simpa using hat) ⟨(Zj _ _).symm,HS7.out.more zug.1,fun _=>zoq.out⟩
      have hgb:∀ b',b'<C->(w8.heap[b']?=w7.heap[b']?):=fun b' hb'=>by
       refine (ZL.block b' (by simp;omega) (fun e=>?_)).trans (MB.block b' (by omega));have:=ZN XU e.symm;omega
      have Q8:Z7 w8 q 182 #[.int .i64 op,.int .i64 vs,.slice (some ⟨zT,hoff,none⟩) rs.length hc,.int .i64 ZY,v,.slice none 0 0,.slice none 0 0]:=(hgb q (by omega)).trans Q7;have R8:RS w8 (PD C q g) w.heap.size g (pl.drop (16*Zk (rs.take (k+1)))):=by
       rw [<- zop.out,<- List.drop_drop];exact HR7.out.move fun b' hb'=>hgb b' (by have:=HB2.size;omega)
      have hz8:w7.heap.size<=w8.heap.size:=Nat.le_trans MB.size ZL.size
      have K8:Z9 (PD C q g) wr w8 :=
       K17.out.trans ⟨ZL.os.trans MB.os,ZL.tape.trans MB.tape,ZL.output.trans MB.output,hz8,fun b' hb'=>hgb b' hb'.1⟩
      have zot:=hide iE;have HR8:=hide R8;have HK8:=hide K8;have p4:=Q8.q4 rfl;have fz4:=Q8.frozen 4;clear iE R8 K8 hgb ME ZL q4 y0 y1 y2 y2' zqw;go_wp2;go_roundw
      case rel =>
       refine ⟨k+1,_,_,by omega,by go_num,hkp.trans (HK8.out.trans (Z9.set (by unfold PD;omega) 4 _ _)),Q8.set 4 _,HR8.out.far (by omega) (by unfold PD;omega) sN.out 4 _,
        zot.out.move (by simp [World.size_setCell]) (fun b' h1 h2=>Below.heap_setCell w8 ⟨q,4,none⟩ _ b' (by simp;omega)),?_,by simp [hgl]⟩
       rw [List.map_append,HGD.out,HRG.out];rfl
      case measure=>simp [intOf];omega
    · obtain rfl:rs.length=k:=(by omega);rw [List.take_length] at HRD HGD;obtain ⟨np,hnp⟩:=Int.eq_ofNat_of_zero_le Sm;obtain ⟨mq,hmq⟩:=Int.eq_ofNat_of_zero_le hQ0;rw [hnp] at hlen hPQ hcP;rw [hmq] at hlen hPQ hcQ;have CN:=JQ op vs ZY wr zqu zqv HA rs.length hc;rw [hnp,hmq] at CN;have HCN:=hide CN;have HPQ:=hide hPQ;have Hr:=H3.kept hkp (by unfold PD;omega);have Rr:=(R2.step hb3).kept hkp (by have:=HB2.size;unfold PD;omega);have h0:=Hr.q0 rfl;have h1:=Hr.q1 rfl;have h2:=Hr.q2 rfl;have h3:=Hr.q3 rfl;have Sg:=hide hnp;have HMQ:=hide hmq;have cZ:=nk.lt;have yzg:=HRD.out.lt;have hkz:=hkp.size;have zcj:=HB2.size;clear CN hPQ hnp hmq Sm hQ0 iD;go_wp2_with fail;refine HCN.out.mono ?_;rintro e RL ⟨rfl,VI⟩;have zuf:=VI.size
      have zwh:RS RL (fun b=>b<RL.heap.size/\b≠g) w.heap.size g (pl.drop (16*Zk rs)) :=
       (HRD.out.move fun b' hb'=>VI.block b' (by omega)).chg (fun h=>h.2 rfl)
      have TK:=K9 (fun b=>b<RL.heap.size/\b≠g) w.heap.size g RL (fun k hk=>⟨by omega,by omega⟩)
       (pl.drop (16*Zk rs)) np (by rw [List.length_drop,mR.out];omega) (by rw [List.length_drop,mR.out];omega) (by rw [Nc.out];exact (Uq.out.drop _).drop _) (fun k hk=>hk.1) zwh
      have Lh:=hide TK;clear TK zwh h0 h1 h2 h3;go_wp2_with fail;refine Lh.out.mono ?_;rintro e Qp ⟨A1,rfl,k11,r11,s11,f11⟩;have ziz:=k11.size;have Q11:=(nk.step VI).kept k11 ⟨by omega,by omega⟩;have R11:=(Rr.step VI).kept k11 ⟨by omega,by omega⟩;have q5:=Q11.q5 rfl;have fz5:=Q11.frozen 5;obtain ⟨M9,Ui⟩:=eE (Qp.setCell ⟨q,5,none⟩ (.slice A1 np np));have Q12:Z7 M9 q 182 #[.int .i64 op,.int .i64 vs,.slice HA rs.length hc,.int .i64 ZY,v,.slice A1 np np,.slice none 0 0]:=(by rw [Ui];exact Q11.set 5 _);have R12:=R11.far (p:=⟨q,5,none⟩) (by simp;omega) (.slice A1 np np);rw [<- Ui] at R12;have zja:Qp.heap.size<=M9.heap.size/\M9.heap.size<=Qp.heap.size:=(by rw [Ui,World.size_setCell];omega);have r12:RS M9 (fun b=>b<M9.heap.size/\b≠g) w.heap.size g ((pl.drop (16*Zk rs)).drop (16*np)):=by
       have:=((r11.chg (R:=PD C q g) (fun h=>h.2.2 rfl)).far (b:=q) (by omega) (by unfold PD;omega) sN.out 5 (.slice A1 np np)).chg (R:=fun b=>b<M9.heap.size/\b≠g) (fun h=>h.2 rfl);rw [Ui] at this ⊢;exact this
      have TQ:=zy (fun b=>b<M9.heap.size/\b≠g) w.heap.size g M9 (fun k hk=>⟨by omega,by omega⟩)
       ((pl.drop (16*Zk rs)).drop (16*np)) mq (by rw [List.length_drop,List.length_drop,mR.out];omega) (by rw [List.length_drop,List.length_drop,mR.out];omega) (by rw [Nc.out];exact ((Uq.out.drop _).drop _).drop _) (fun k hk=>hk.1) r12
      have HTQ:=hide TQ;have e12:∀ b',b'≠q->M9.heap[b']?=Qp.heap[b']?:=fun b' hb'=>by rw [Ui];exact Below.heap_setCell Qp ⟨q,5,none⟩ _ b' hb'
      have E12:=hide e12;have K12:Z9 (PD C q g) Qp M9:=(by rw [Ui];exact Z9.set (by unfold PD;omega) 5 _ _);have zbf:=hide K12;have je:=Ui.symm;clear TQ r12 Ui e12 K12;go_wp2_with fail;refine HTQ.out.mono ?_;rintro e Ph ⟨A2,rfl,k13,r13,s13,f13⟩;have zdn:=k13.size;have Q13:=Q12.kept k13 ⟨by omega,by omega⟩;have R13:=R12.kept k13 ⟨by omega,by omega⟩;have q6:=Q13.q6 rfl;have fz6:=Q13.frozen 6;obtain ⟨zJ,xW⟩:=eE (Ph.setCell ⟨q,6,none⟩ (.slice A2 mq mq));have Q14:Z7 zJ q 182 #[.int .i64 op,.int .i64 vs,.slice HA rs.length hc,.int .i64 ZY,v,.slice A1 np np,.slice A2 mq mq]:=(by rw [xW];exact Q13.set 6 _);have Qd:=R13.far (p:=⟨q,6,none⟩) (by simp;omega) (.slice A2 mq mq);rw [<- xW] at Qd;have zab:Ph.heap.size<=zJ.heap.size/\zJ.heap.size<=Ph.heap.size:=(by rw [xW,World.size_setCell];omega);have E14:Hid (∀ b',b'≠q->zJ.heap[b']?=Ph.heap[b']?):=hide fun b' hb'=>by rw [xW];exact Below.heap_setCell Ph ⟨q,6,none⟩ _ b' hb'
      have K14:Hid (Z9 (PD C q g) Ph zJ):=(by apply hide;rw [xW];exact Z9.set (by unfold PD;omega) 6 _ _);have zal:=xW.symm;clear xW je;have q0:=Q14.q0 rfl;have q1:=Q14.q1 rfl;have q2:=Q14.q2 rfl;have q3:=Q14.q3 rfl;have q4:=Q14.q4 rfl;have q5':=Q14.q5 rfl;have q6':=Q14.q6 rfl;have r0:=Qd.q0 rfl;have r1:=Qd.q1 rfl;have r2:=Qd.q2 rfl;have r3:=Qd.q3 rfl;have r4:=Qd.q4 rfl;have r5:=Qd.q5 rfl;have r6:=Qd.q6 rfl;have g0:=Qd.frozen 0;have g1:=Qd.frozen 1;have g2:=Qd.frozen 2;have g3:=Qd.frozen 3;have g4:=Qd.frozen 4;have g5:=Qd.frozen 5;have g6:=Qd.frozen 6;clear q5;obtain ⟨GA,gc,rfl,_⟩:=ZP HQI.out.1;go_wp2;clear q0 q1 q2 q3 q4 q5' q6' q6 r0 r1 r2 r3 r4 r5 r6 g0 g1 g2 g3 g4 g5 g6;obtain ⟨e0,e1,e2,e3,e4,e5,e6⟩:=Tt Qd (.int .i64 op) (.int .i64 vs) (.slice HA rs.length hc) (.int .i64 ZY) (.slice GA rs.length gc) (.slice A1 np np) (.slice A2 mq mq);rw [HD.out];refine bodyPost_ret (v:=.tuple #[.agg #[.int .i64 op,.int .i64 vs,.slice HA rs.length hc,.int .i64 ZY,.slice GA rs.length gc,.slice A1 np np,.slice A2 mq mq],.int .i64 0]) (by simp [results,Tryz.results164,go_sem,e0,e1,e2,e3,e4,e5,e6]) rfl ?_;clear e0 e1 e2 e3 e4 e5 e6;obtain ⟨W,hW⟩:=eE (Jd zJ w.heap.size (.int .i64 op) (.int .i64 vs) (.slice HA rs.length hc) (.int .i64 ZY) (.slice GA rs.length gc) (.slice A1 np np) (.slice A2 mq mq));have hWz:zJ.heap.size<=W.heap.size:=(by rw [hW,Im];exact Nat.le_refl _);have eW:∀ b',b'≠w.heap.size->W.heap[b']?=zJ.heap[b']?:=fun b' hb'=>by rw [hW];exact Dx zJ _ _ _ _ _ _ _ _ b' hb'
      have zci:Below w.heap.size w zJ:=(((((HB3.trans (hkp.below sN.out)).trans (VI.mono (by omega))).trans (k11.below (fun k hk=>⟨by omega,by omega⟩))).trans (zbf.out.below sN.out)).trans (k13.below (fun k hk=>⟨by omega,by omega⟩))).trans (K14.out.below sN.out);have hBW:Below w.heap.size w W:=(by rw [hW];exact Tq zci (Nat.le_refl _) _ _ _ _ _ _ _);have e13:∀ b',b'<Ph.heap.size->b'≠q->b'≠w.heap.size->W.heap[b']?=Ph.heap[b']?:=fun b' h1 h2 h3=>(eW b' h3).trans (E14.out b' h2);have e11:∀ b',b'<Qp.heap.size->b'≠q->b'≠g->b'≠w.heap.size->W.heap[b']?=Qp.heap[b']?:=fun b' h1 h2 h3 h4=>(e13 b' (by omega) h2 h4).trans ((k13.block b' ⟨by omega,h3⟩).trans (E12.out b' h2));have er:∀ b',b'<wr.heap.size->b'≠q->b'≠g->b'≠w.heap.size->W.heap[b']?=wr.heap[b']?:=fun b' h1 h2 h3 h4=>(e11 b' (by omega) h2 h3 h4).trans ((k11.block b' ⟨by omega,h3⟩).trans (VI.block b' h1));have QIW:QI W C gs (.slice GA gs.length gc):=HQI.out.move (by omega) fun b' h1 h2=>er b' h2 (by omega) (by omega) (by omega)
      have zqr:Sl W w2.heap.size HA (rgCells rs):=HSL.out.at_ fun b' h1 hx x hA hxb=>by
       refine (er b' (by omega) (by omega) (by omega) ?_).trans ((hkp.block b' (by unfold PD;omega)).trans (hb3.block b' h1));subst hxb;intro e;exact uL hx HSL.out hA (by rw [e];exact R2)
      have zvl:Sl W Qp.heap.size A1 (Zl (XV (pl.drop (16*Zk rs)) np)):=s11.at_ fun b' h1 hx x hA hxb=>by
       have:=f11 x hA;subst hxb;exact e11 _ h1 (by omega) (by omega) (by omega)
      have zmm:Sl W Ph.heap.size A2 (XC (XG ((pl.drop (16*Zk rs)).drop (16*np)) mq)):=s13.at_ fun b' h1 hx x hA hxb=>by
       have:=f13 x hA;subst hxb;exact e13 _ h1 (by omega) (by omega)
      have hqq:XG ((pl.drop (16*Zk rs)).drop (16*np)) mq=XG (pl.drop (16*Zk rs)) mq:=by
       rcases HPQ.out with h|h
       · rw [show np=0 by omega];simp
       · rw [show mq=0 by omega];rfl
      rw [hqq] at zmm;show Oa (Um ⟨op,vs,rs,ZY⟩ (bs.drop N),0) w _ (Jd zJ w.heap.size _ _ _ _ _ _ _);rw [<- hW];clear hW;have hps:(Um ⟨op,vs,rs,ZY⟩ (bs.drop N)).ps=XV (pl.drop (16*Zk rs)) np:=by
       show XV _ (XI op vs).toNat=_;rw [Sg.out,<- Nc.out];rfl
      have MF:(Um ⟨op,vs,rs,ZY⟩ (bs.drop N)).qs=XG (pl.drop (16*Zk rs)) mq:=by
       show XG _ (Xm op ZY).toNat=_;rw [HMQ.out,<- Nc.out];rfl
      refine ⟨rs,HA,hc,gs,GA,gc,A1,np,A2,mq,?_,hBW,?_,by rw [hps,Zj];exact Nat.le_refl _⟩
      · unfold Il;dsimp only;rw [hps,MF,Zj,WJ,hgl];rfl
      · refine ⟨zqr.more (by omega),rfl,Sl.Zv QIW.1,QIW.zxn,?_,?_,?_⟩
        · rw [HGD.out,Nc.out];rfl
        · dsimp only;rw [hps];exact zvl.more (by omega)
        · dsimp only;rw [MF];exact zmm.more (by omega)
 · have hne:(cl != 0)=true:=(by simpa using hc0);rw [if_neg hc0] at HD;have IG:=hide CL;clear CL PA hpe hcl hc0 hfix hg hby EH hs;go_enter func164,ntmps164;go_wp2_with fail;rw [<- hw0];have HW0:=hide hw0;clear hw0;refine IG.out.mono ?_;rintro e w1 ⟨rfl,hb1⟩;have R1:=R0.step hb1;have r0:=R1.q0 rfl;have r1:=R1.q1 rfl;have r2:=R1.q2 rfl;have r3:=R1.q3 rfl;have r4:=R1.q4 rfl;have r5:=R1.q5 rfl;have r6:=R1.q6 rfl;have f0:=R1.frozen 0;have f1:=R1.frozen 1;have f2:=R1.frozen 2;have f3:=R1.frozen 3;have f4:=R1.frozen 4;have f5:=R1.frozen 5;have f6:=R1.frozen 6;go_wp2;obtain ⟨e0,e1,e2,e3,e4,e5,e6⟩:=Tt R1 (.int .i64 0) (.int .i64 0) (.slice none 0 0) (.int .i64 0) (.slice none 0 0) (.slice none 0 0) (.slice none 0 0);rw [HD.out];exact bodyPost_ret (v:=.tuple #[.agg #[.int .i64 0,.int .i64 0,.slice none 0 0,.int .i64 0,.slice none 0 0,.slice none 0 0,.slice none 0 0],.int .i64 cl]) (by simp [results,Tryz.results164,go_sem,e0,e1,e2,e3,e4,e5,e6]) rfl (Ol (Tq (Z8 hb0 hb1) (Nat.le_refl _) _ _ _ _ _ _ _))
end
end
section
open Go.RowKit
theorem UR(bs:List Int)(a k:Nat):eight (bs.drop a) k=eight bs (a+k):=by unfold eight;rw [List.drop_drop]
theorem Ic(bs:List Int)(a n:Nat):XL bs a 16 n=XV (bs.drop a) n:=by
 unfold XL XV
 congr 1
 funext i
 unfold OP UF;rw [UR,UR,show a+i*16=a+16*i by omega,show a+16*i+8=a+(16*i+8) by omega]
theorem kQ(bs:List Int)(a i:Nat):WK (bs.drop a) i=(OP bs a 24 i,le (eight bs (a+24*i+16))):=by
 unfold WK OP;rw [UR,UR,UR,show a+i*24=a+24*i by omega,show a+24*i+8=a+(24*i+8) by omega,show a+24*i+16=a+(24*i+16) by omega]
theorem yR(bs:List Int)(a step:Nat){n i:Nat}(h:i<n):(XL bs a step n)[i]?=some (OP bs a step i):=by simp [XL,h]
theorem qV(qs:List ((Int × Int) × Int))(r:(Int × Int) × Int):XC (qs++[r])=XC qs++[.int .i64 r.1.1,.int .i64 r.1.2,.int .u64 r.2]:=by simp [XC]
theorem zwr{w w':World}{g:Nat}{t:TypeId}{cs:Array Value}(h:Z7 w g t cs)(e:w'.heap[g]?=w.heap[g]?):Z7 w' g t cs:=e.trans h
section
variable (bs:List Int)(A:Option Addr)(c:Nat)(w:World)
variable (hs:Sl w w.heap.size A (ZU bs))(hby:By bs)(hmax:bs.length<=300000)
include hs hby hmax
theorem Df:Calls prog 60 #[.slice A bs.length c] w (Oa (Zr bs) w):=by
 obtain ⟨w0,hw0⟩:=eE (w.alloc (.cells #[.int .i64 0,.int .i64 0,.slice none 0 0,.int .i64 0,.slice none 0 0,.slice none 0 0,.slice none 0 0] 55));have hb0:=bE hw0;have hz0:w0.heap.size=w.heap.size+1:=by rw [hw0];simp
 have R0:Z7 w0 w.heap.size 55 #[.int .i64 0,.int .i64 0,.slice none 0 0,.int .i64 0,.slice none 0 0,.slice none 0 0,.slice none 0 0]:=by rw [hw0];exact Z7.new _ _ _
 have EH:∀ (j:Nat) (x:Int),bs[j]?=some x->0<=x/\x<=255:=fun j x h=>hby x (List.mem_of_getElem? h);have CL:=Ja bs A c w0 ((hs.below hb0).more hb0.size) EH;have PA:∀ w1,Below w0.heap.size w0 w1->Calls prog 107 #[.slice A bs.length c] w1 (Parsed (ZW bs) w1):=fun w1 h1=>KW bs A c w1 (((hs.below hb0).below (h1.mono hb0.size)).more (Nat.le_trans hb0.size h1.size)) EH;obtain ⟨cl,hcl⟩:∃ cl,Y7 bs=cl:=⟨_,rfl⟩;rw [hcl] at CL;obtain ⟨h,n,er,hpe⟩:∃ h n er,ZW bs=(h,n,er):=⟨_,_,_,rfl⟩;rw [hpe] at PA;have HD:Hid (Zr bs=if cl=0 then (Um h (bs.drop n.toNat),0) else (XM,cl)):=by apply hide;unfold Zr;rw [hcl,hpe]
 by_cases hc0:cl=0
 · subst hc0;have DF:=TI hpe hcl;obtain ⟨rfl,hk,hn0,hn1,Sm,hQ0,hPQ,iD,hlen⟩:=DF;obtain ⟨op,vs,rs,ZY⟩:=h;dsimp only at hk Sm hQ0 hPQ iD hlen;obtain ⟨N,rfl⟩:=Int.eq_ofNat_of_zero_le hn0;rw [if_pos rfl,Int.toNat_natCast] at HD;have IG:=hide CL;have Gb:=hide PA;have HK:=hide hk;have Lf:=hide hpe;have zbb:=hide hcl;have Uq:=hide hby;have HS:=hide hs;clear CL PA hpe hcl hby EH hk hs;go_enter func60,ntmps60;go_wp2_with fail;rw [<- hw0];have HW0:=hide hw0;clear hw0;refine IG.out.mono ?_;rintro e w1 ⟨rfl,hb1⟩;have PA1:=Gb.out w1 hb1;clear Gb IG;have Gb:=hide PA1;clear PA1;go_wp2_with fail;refine Gb.out.mono ?_;rintro e w2 ⟨HA,hc,rfl,hsl,hb2⟩;clear Gb;have R2:=(R0.step hb1).step hb2;have HB2:=Z8 (Z8 hb0 hb1) hb2;dsimp only at hsl ⊢;obtain ⟨w3,hw3⟩:=eE ((w2.alloc (.cells #[.int .i64 op,.int .i64 vs,.slice HA rs.length hc,.int .i64 ZY] 53)).alloc (.cells #[.int .i64 op,.int .i64 vs,.slice HA rs.length hc,.int .i64 ZY,.slice none 0 0,.slice none 0 0,.slice none 0 0] 55));have hb3:=bF hw3;have hz3:w3.heap.size=w2.heap.size+2:=(by rw [hw3];simp);have H3:Z7 w3 w2.heap.size 53 #[.int .i64 op,.int .i64 vs,.slice HA rs.length hc,.int .i64 ZY]:=(by rw [hw3];exact (Z7.new _ _ _).alloc _);have Q3:Z7 w3 (w2.heap.size+1) 55 #[.int .i64 op,.int .i64 vs,.slice HA rs.length hc,.int .i64 ZY,.slice none 0 0,.slice none 0 0,.slice none 0 0]:=(by rw [hw3];exact Z7.new2 _ _ _ _);have HB3:=Z8 HB2 hb3;go_wp2;rw [<- hw3];have HW3:=hide hw3;clear hw3;obtain ⟨q,hq⟩:=eE (w2.heap.size+1);rw [<- hq] at Q3 ⊢;obtain ⟨C,hC⟩:=eE w3.heap.size;obtain ⟨pl,hpl⟩:=eE (bs.drop N);have xR:pl.length=bs.length - N:=(by rw [hpl,List.length_drop]);have hqe:w2.heap.size+1<=q/\q<=w2.heap.size+1:=(by omega);have hCe:w3.heap.size<=C/\C<=w3.heap.size:=(by omega);clear hq hC;have hBP:∀ k,k<w.heap.size->PD C q q k:=fun k hk=>by have:=HB2.size;unfold PD;omega
   have sN:=hide hBP;have mR:=hide xR;have Nc:=hide hpl;have HSL:=hide hsl;have hcb:=JM HK.out;obtain ⟨zqu,zqv,zhw,hcP,hcQ⟩:=hcb;clear hBP xR hpl hsl
   -- the rows of points that are read,in a world that keeps what was there
   have hrp:∀ (w':World),Below w.heap.size w w'->∀ at_ n step:Nat,step<=100->16<=step->at_+n*step<=bs.length ->
    Calls prog 108 #[.slice A bs.length c,.int .i64 (at_:Int),.int .i64 (n:Int),.int .i64 (step:Int)] w' (Pointed (XL bs at_ step n) w') :=
    fun w' hb at_ n step h1 h2 h3=>zf bs A c w' ((HS.out.below hb).more hb.size) Uq.out (by omega) at_ n step h1 h2 h3
   have HRP:=hide hrp;clear hrp;have hnS:∀ k,Zk (rs.take k)<=Zk rs:=Tf rs;have HNS:=hide hnS;clear hnS
   go_loopw [6,9] (fun at_ i wr=>∃ (k:Nat) (gs:List Gr) (v:Value),k<=rs.length/\i=.int .i64 k/\at_=.int .i64 ((N+16*Zk (rs.take k):Nat):Int)/\Z9 (PD C q q) w3 wr/\Z7 wr q 55 #[.int .i64 op,.int .i64 vs,.slice HA rs.length hc,.int .i64 ZY,v,.slice none 0 0,.slice none 0 0] /\
    QI wr C gs v/\gs.map Oq=Yg (rs.take k) pl/\gs.length=k)
    (fun _ i _=>rs.length - (intOf i).toNat)
   case atStart=>exact ⟨0,[],.slice none 0 0,by omega,rfl,by simp [Zk],Z9.refl _ _,Q3,QI.nil _ _,rfl,rfl⟩
   case round =>
    obtain ⟨k,gs,v,hk,rfl,rfl,hkp,nk,hqi,hgd,hgl⟩:=hrel;have HGD:=hide hgd;clear hgd;have HQI:=hide hqi;clear hqi;have Hr:=H3.kept hkp (by unfold PD;omega);have h2:=Hr.q2 rfl
    by_cases hlt:k<rs.length
    · obtain ⟨r,hr⟩:∃ r,rs[k]?=some r:=⟨_,List.getElem?_eq_getElem hlt⟩;obtain ⟨zT,hoff,rfl,hhb,d0,d1,d2⟩:=HSL.out.rg hr;have hPh:PD C q q zT:=(by unfold PD;omega);have c0:=((hkp.cell hPh _).trans (hb3.cell (p:=⟨zT,_,none⟩) hhb)).trans d0;have c1:=((hkp.cell hPh _).trans (hb3.cell (p:=⟨zT,_,none⟩) hhb)).trans d1;have c2:=((hkp.cell hPh _).trans (hb3.cell (p:=⟨zT,_,none⟩) hhb)).trans d2;clear d0 d1 d2;obtain ⟨wx,hwx⟩:=eE (wr.alloc (.cells #[.bool r.d,.int .i64 r.v,.slice r.A r.n r.c] 38));have hbx:=bE hwx;have X0:Z7 wx wr.heap.size 38 #[.bool r.d,.int .i64 r.v,.slice r.A r.n r.c]:=(by rw [hwx];exact Z7.new _ _ _);have hzx:wx.heap.size=wr.heap.size+1:=(by rw [hwx];simp);have hCr:C<=wr.heap.size:=Nat.le_trans hCe.2 hkp.size;have vM:=hide (Hg rs k r hr);have HRG:=hide (Rv rs pl k r hr);have HNL:=hide (Tf rs (k+1));clear hr;have x1:=X0.q1 rfl;have yzl:zT<wr.heap.size:=Zz c0;have hkl:(k:Int)<(rs.length:Int):=(by omega);go_wp2_with fail;rw [<- hwx];have HWX:=hide hwx;clear hwx;refine (Uy r.v wx).mono ?_;rintro e w5 ⟨rfl,rfl⟩;rw [<- Tv];have iR:=OX r.v;have hsn:=vM.out;have hnl:=HNL.out;have RP:=HRP.out wx ((HB3.trans (hkp.below sN.out)).trans (hbx.mono (by have:=HB3.size;have:=hkp.size;omega))) (N+16*Zk (rs.take k)) (Zu r.v) 16 (by omega) (by omega) (by omega);have Lh:=hide RP;clear RP x1;go_wp2_with fail;refine Lh.out.mono ?_;rintro e w6 ⟨NW,pc,rfl,k6,kF⟩;rw [Ic,<- List.drop_drop,<- Nc.out] at kF;rw [Yf];rw [Zj] at kF;have s6:Sl w6 w6.heap.size NW (Zl (XV (pl.drop (16*Zk (rs.take k))) (Zu r.v))):=Sl.Zv kF
      have f6:∀ x,NW=some x->wx.heap.size<=x.block:=fun x hx=>by
       subst hx;exact ZN kF rfl
      have zgu:wr.heap.size<wx.heap.size:=(by omega);have cZ:=nk.lt;have zdi:=k6.size;have hch:∀ b',b'<wr.heap.size->w6.heap[b']?=wr.heap[b']?:=fun b' h1=>(k6.block b' (by omega)).trans (hbx.block b' h1);have X6:Z7 w6 wr.heap.size 38 #[.bool r.d,.int .i64 r.v,.slice r.A r.n r.c]:=X0.step k6;have X7:Z7 (w6.setCell ⟨wr.heap.size,2,none⟩ (.slice NW (Zu r.v) pc)) wr.heap.size 38 #[.bool r.d,.int .i64 r.v,.slice NW (Zu r.v) pc]:=X6.set 2 _;have Q6:Z7 w6 q 55 #[.int .i64 op,.int .i64 vs,.slice (some ⟨zT,hoff,none⟩) rs.length hc,.int .i64 ZY,v,.slice none 0 0,.slice none 0 0]:=(hch q cZ).trans nk;have Q7:=Q6.far (p:=⟨wr.heap.size,2,none⟩) (by simp;omega) (.slice NW (Zu r.v) pc);have xG:∀ b',b'<wr.heap.size->(w6.setCell ⟨wr.heap.size,2,none⟩ (.slice NW (Zu r.v) pc)).heap[b']?=wr.heap[b']?:=fun b' h1=>(Below.heap_setCell w6 ⟨wr.heap.size,2,none⟩ _ b' (by simp;omega)).trans (hch b' h1);have hz7:(w6.setCell ⟨wr.heap.size,2,none⟩ (.slice NW (Zu r.v) pc)).heap.size=w6.heap.size:=World.size_setCell _ _ _;have QI7:QI (w6.setCell ⟨wr.heap.size,2,none⟩ (.slice NW (Zu r.v) pc)) C gs v:=HQI.out.move (by omega) fun b' h1 h2=>xG b' h2;have s7:=s6.far (p:=⟨wr.heap.size,2,none⟩) (fun _ x hx=>by have:=f6 x hx;simp;omega) (.slice NW (Zu r.v) pc);have y2:=X6.q2 rfl;have fz2:=X6.frozen 2
      have hnew:∀ x,NW=some x->C<=x.block/\v.ownBlock≠some x.block:=fun x hx=>by
       have h1:=f6 x hx;refine ⟨by omega,fun e=>?_⟩;have:=KF HQI.out.1 e;omega
      have zoq:=hide hnew;have zol:=hide xG;have HS7:=hide s7;have eF:=hide QI7;have XU:=QI7.1;rw [hgl] at XU;clear hnew hch xG s7 s6 QI7 f6 Lh kF;have kxx:N+16*Zk (rs.take k)+16*Zu r.v=N+16*Zk (rs.take (k+1)):=(by omega);have zop:=hide kxx;clear kxx;obtain ⟨w7,hw7⟩:=eE (w6.setCell ⟨wr.heap.size,2,none⟩ (.slice NW (Zu r.v) pc));rw [<- hw7] at X7 Q7 hz7 zol HS7 eF XU;have zqw:=hw7.symm;have y0:=X7.q0 rfl;have y1:=X7.q1 rfl;have y2':=X7.q2 rfl;have q4:=Q7.q4 rfl;obtain ⟨i0,hi,hi0,hi1,hi2⟩:=info_parts QT;have zug:w6.heap.size<=w7.heap.size/\w7.heap.size<=w6.heap.size:=(by omega);have k17:Z9 (PD C q q) wr w7:=by
       have k1:Z9 (PD C q q) wr w6:=(Z9.of_below hbx (fun k hk=>by unfold PD at hk;omega)).trans (Z9.of_below k6 (fun k hk=>by unfold PD at hk;omega));rw [hw7];exact k1.trans (Z9.set (by unfold PD;omega) 2 _ _)
      have K17:=hide k17;clear hw7 hz7 k17 h2;have hC7:C<=w7.heap.size:=(by omega);go_wp2_with (at_builtin;refine wpList_append_lies _ rfl (.tmp 51) (.tmp 53) 32 rfl C 38 i0 (.agg #[.bool false,.int .i64 0,.slice none 0 0]) 3 40 underlying32 hi hi0 hi1 hi2 rfl (by decide) v k _ rfl (ZI XU (bA)) ⟨w7.heap.size,0,none⟩ 1 1 [.bool r.d,.int .i64 r.v,.slice NW (Zu r.v) pc] rfl rfl ?a1 ?a2 ?a3 ?a4 ?a5 ?a6 (w7.heap.size+1) ?a7 ?_)
      case a1=>exact ZB (Z7.new _ _ _)
      case a2=>simp [Value.oneCell']
      case a3=>omega
      case a4=>unfold maxLen;omega
      case a5=>omega
      case a6=>simp;omega
      case a7=>simp
      intro g' cap w8 ME ZL hat zct;have MB:Below w7.heap.size w7 (w7.alloc (.cells #[.bool r.d,.int .i64 r.v,.slice NW (Zu r.v) pc] 38)):=bA
      have iE:QI w8 C (gs++[(⟨r.d,r.v,NW,Zu r.v,pc⟩,XV (pl.drop (16*Zk (rs.take k))) (Zu r.v))]) (.slice (some ⟨g',0,none⟩) (k+1) cap) :=
       uT eF.out MB ME (by simp [hgl]) (by simp [rgCells,Rg.cells]) ZL (by simpa using hat) ⟨(Zj _ _).symm,HS7.out.more zug.1,fun _=>zoq.out⟩
      have hgb:∀ b',b'<C->(w8.heap[b']?=w7.heap[b']?):=fun b' hb'=>by
       refine (ZL.block b' (by simp;omega) (fun e=>?_)).trans (MB.block b' (by omega));have:=ZN XU e.symm;omega
      have Q8:Z7 w8 q 55 #[.int .i64 op,.int .i64 vs,.slice (some ⟨zT,hoff,none⟩) rs.length hc,.int .i64 ZY,v,.slice none 0 0,.slice none 0 0]:=(hgb q (by omega)).trans Q7;have hz8:w7.heap.size<=w8.heap.size:=Nat.le_trans MB.size ZL.size
      have K8:Z9 (PD C q q) wr w8 :=
       K17.out.trans ⟨ZL.os.trans MB.os,ZL.tape.trans MB.tape,ZL.output.trans MB.output,hz8,fun b' hb'=>hgb b' hb'.1⟩
      have zot:=hide iE;have HK8:=hide K8;have p4:=Q8.q4 rfl;have fz4:=Q8.frozen 4;have m1:IntKind.i64.wrap (16*(Zu r.v:Int))=16*(Zu r.v:Int):=(by rw [IntKind.wrap_i64];omega);clear iE K8 hgb ME ZL q4 y0 y1 y2 y2' zqw;go_wp2;go_roundw
      case rel =>
       refine ⟨k+1,_,_,by omega,by go_num,by congr 1;have:=zop.out;omega,hkp.trans (HK8.out.trans (Z9.set (by unfold PD;omega) 4 _ _)),Q8.set 4 _,
        zot.out.move (by simp [World.size_setCell]) (fun b' h1 h2=>Below.heap_setCell w8 ⟨q,4,none⟩ _ b' (by simp;omega)),?_,by simp [hgl]⟩
       rw [List.map_append,HGD.out,HRG.out];rfl
      case measure=>simp [intOf];omega
    · obtain rfl:rs.length=k:=(by omega);rw [List.take_length] at HGD;rw [List.take_length];obtain ⟨np,hnp⟩:=Int.eq_ofNat_of_zero_le Sm;obtain ⟨mq,hmq⟩:=Int.eq_ofNat_of_zero_le hQ0;rw [hnp] at hlen hPQ hcP;rw [hmq] at hlen hPQ hcQ;have CN:=Dc op vs ZY wr zqu zqv HA rs.length hc;rw [hnp,hmq] at CN;have HCN:=hide CN;have HPQ:=hide hPQ;have Rr:=(R2.step hb3).kept hkp (by have:=HB2.size;unfold PD;omega);have h0:=Hr.q0 rfl;have h1:=Hr.q1 rfl;have h3:=Hr.q3 rfl;have Sg:=hide hnp;have HMQ:=hide hmq;have cZ:=nk.lt;have hkz:=hkp.size;have zcj:=HB2.size;have LQ:=HB3.trans (hkp.below sN.out);have RN:=hide LQ;clear CN hPQ hnp hmq Sm hQ0 iD LQ;obtain ⟨at_,hat⟩:=eE (N+16*Zk rs);rw [<- hat];have yzb:N+16*Zk rs<=at_/\at_<=N+16*Zk rs:=(by omega);have HAT:=hide hat;clear hat;obtain ⟨gs0,hgs0⟩:=eE gs;go_wp2_with fail;refine HCN.out.mono ?_;rintro e RL ⟨rfl,VI⟩;have zuf:=VI.size;have IC:=RN.out.trans (VI.mono (by have:=RN.out.size;omega));have RP:=HRP.out RL IC at_ np 16 (by omega) (by omega) (by omega);have Lh:=hide RP;clear RP h0 h1 h2 h3;go_wp2_with fail;refine Lh.out.mono ?_;rintro e Qp ⟨A1,pc1,rfl,BF,CQ⟩;have HCAP:Hid (np<=pc1):=by
       obtain ⟨_,_,hh,h⟩:=ZP CQ;cases hh;rw [Yf] at h;exact h
      rw [Ic,HAT.out,<- List.drop_drop,<- Nc.out,Zj] at CQ;rw [Yf];have s11:Sl Qp Qp.heap.size A1 (Zl (XV (pl.drop (16*Zk rs)) np)):=Sl.Zv CQ;have f11:∀ x,A1=some x->RL.heap.size<=x.block:=fun x hx=>by subst hx;exact ZN CQ rfl
      have ziz:=BF.size;have Q11:=(nk.step VI).step BF;have R11:=(Rr.step VI).step BF;have q5:=Q11.q5 rfl;have fz5:=Q11.frozen 5;obtain ⟨M9,Ui⟩:=eE (Qp.setCell ⟨q,5,none⟩ (.slice A1 np pc1));have Q12:Z7 M9 q 55 #[.int .i64 op,.int .i64 vs,.slice HA rs.length hc,.int .i64 ZY,v,.slice A1 np pc1,.slice none 0 0]:=(by rw [Ui];exact Q11.set 5 _);have R12:=R11.far (p:=⟨q,5,none⟩) (by simp;omega) (.slice A1 np pc1);rw [<- Ui] at R12;have zja:Qp.heap.size<=M9.heap.size/\M9.heap.size<=Qp.heap.size:=(by rw [Ui,World.size_setCell];omega);have E12:Hid (∀ b',b'≠q->M9.heap[b']?=Qp.heap[b']?):=hide fun b' hb'=>by rw [Ui];exact Below.heap_setCell Qp ⟨q,5,none⟩ _ b' hb'
      have K12:Hid (Z9 (PD C q q) Qp M9):=(by apply hide;rw [Ui];exact Z9.set (by unfold PD;omega) 5 _ _);have je:=Ui.symm;have IE:=(IC.trans (BF.mono (by omega))).trans (K12.out.below sN.out);have RQ:=HRP.out M9 IE at_ mq 24 (by omega) (by omega) (by omega);have HTQ:=hide RQ;clear RQ Ui CQ q5;have q5:=Q11.q5 rfl;go_wp2_with fail;refine HTQ.out.mono ?_;rintro e Ph ⟨A3,pc3,rfl,EF,uN⟩;rw [Yf];rw [Yf] at uN;have s13:Sl Ph Ph.heap.size A3 (Zl (XL bs at_ 24 mq)):=Sl.Zv uN;have f13:∀ x,A3=some x->M9.heap.size<=x.block:=fun x hx=>by subst hx;exact ZN uN rfl
      have zdn:=EF.size;have Q13:=Q12.step EF;have R13:=R12.step EF;have vD:=IE.trans (EF.mono (by omega));have vL:=hide s13;clear je uN s13 HTQ Lh q5;have hqz:q<Ph.heap.size:=(by omega);have zfz:∀ k,k<w.heap.size->PD Ph.heap.size q q k:=fun k hk=>by unfold PD;omega
      have zev:=hide zfz;clear zfz;go_wp2
      go_loopw [15] (fun i wr2=>∃ (k:Nat) (v2:Value),k<=mq/\i=.int .i64 k/\Z9 (PD Ph.heap.size q q) Ph wr2/\Z7 wr2 q 55 #[.int .i64 op,.int .i64 vs,.slice HA rs.length hc,.int .i64 ZY,v,.slice A1 np pc1,v2] /\
       wr2.ownsRow Ph.heap.size 46 3 v2 k (XC (XG (pl.drop (16*Zk rs)) k)))
       (fun i _=>mq - (intOf i).toNat)
      case atStart=>exact ⟨0,.slice none 0 0,by omega,rfl,Z9.refl _ _,Q13,World.ownsRow_nil _ _ _ _⟩
      case round =>
       obtain ⟨k,v2,hk2,rfl,Nu,Ny,ZT⟩:=hrel;have yzp:=Nu.size
       by_cases hlt2:k<mq
       · obtain ⟨b3,zac,rfl,zgj,c0,c1⟩:=vL.out.pt (yR bs at_ 24 hlt2);obtain ⟨x,hx⟩:=eE ((OP bs at_ 24 k).1);obtain ⟨y,hy⟩:=eE ((OP bs at_ 24 k).2);rw [<- hx] at c0;rw [<- hy] at c1;obtain ⟨id,hid⟩:=eE (le ((bs.drop (at_+24*k+16)).take 8));have zU:WK (pl.drop (16*Zk rs)) k=((x,y),id):=by
          rw [Nc.out,List.drop_drop,<- HAT.out,kQ,hx,hy,hid];rfl
         have hsn:XG (pl.drop (16*Zk rs)) (k+1)=XG (pl.drop (16*Zk rs)) k++[((x,y),id)]:=by
          rw [<- zU];simp [XG,List.range_succ]
         have zgk:b3≠q:=(by have:=f13 _ rfl;dsimp only at this;omega);have zgc:PD Ph.heap.size q q b3:=⟨zgj,zgk,zgk⟩;have c0':=(Nu.cell zgc _).trans c0;have c1':=(Nu.cell zgc _).trans c1;have W:=P6 bs A c wr.heap.size wr.drew ((((HS.out.below vD).kept Nu zev.out).more (by have:=vD.size;omega))) Uq.out (by omega) (at_+24*k+16) (by omega);rw [<- hid] at W;rw [show ((at_+24*k+16:Nat):Int)=(at_:Int)+24*(k:Int)+16 by omega] at W;have HW:=hide W;have vM:=hide hsn;obtain ⟨i0,hi,hi0,hi1,hi2⟩:=info_parts LD;have q6:=Ny.q6 rfl;have fz6:=Ny.frozen 6;have hne:some q≠v2.ownBlock:=own_ne ZT hqz;have m1:IntKind.i64.wrap (24*(k:Int))=24*(k:Int):=(by rw [IntKind.wrap_i64];omega);have m2:IntKind.i64.wrap ((at_:Int)+24*(k:Int))=(at_:Int)+24*(k:Int):=(by rw [IntKind.wrap_i64];omega);have m3:IntKind.i64.wrap ((at_:Int)+24*(k:Int)+16)=(at_:Int)+24*(k:Int)+16:=(by rw [IntKind.wrap_i64];omega);have hkq:(k:Int)<(mq:Int):=(by omega);have hk0:(0:Int)<=(k:Int):=(by omega);have zhq:=Ny.lt;clear hx hy hid zU hsn W c0 c1;go_wp2
         go_region_law (first
          | (refine step_append_lies _ (by rfl) (.tmp 80) (.tmp 93) 33 (by rfl) Ph.heap.size 46 i0 (.agg #[.int .i64 0,.int .i64 0,.int .u64 0]) 3 24 underlying33 hi hi0 hi1 hi2 (by rfl) (by decide) v2 _ _ (by rfl) (ZI ZT (ZV (bA))) ⟨wr.heap.size,0,none⟩ 1 1 [.int .i64 x,.int .i64 y,.int .u64 id] (by rfl) (by rfl) (ZB (Z7.new _ _ _).drew) (by simp [Value.oneCell']) (by omega) (by unfold maxLen;omega) (by omega) (by simp;omega) (wr.heap.size+1) (by simp) ?_;intro g' cap w1 YZ ZL hat hlt';have d1:=(World.grownBy.cell_far ZL ⟨q,6,none⟩ (by simp;omega) hne).trans (((ZV (bA):Below wr.heap.size wr _).cell (p:=⟨q,6,none⟩) zhq).trans q6);have f1:=(World.grownBy.frozen_far ZL ⟨q,6,none⟩ (by simp;omega) hne).trans (((ZV (bA):Below wr.heap.size wr _).frozen (p:=⟨q,6,none⟩) zhq).trans fz6))
          | (go_simp;go_at_call 109;refine HW.out.mono ?_;rintro e w' ⟨rfl,rfl⟩))
         all_goals
          have MB:=(ZV (bA):Below wr.heap.size wr (wr.alloc (.cells #[.int .i64 x,.int .i64 y,.int .u64 id] 46)).drew)
          have hgb:∀ b',b'<Ph.heap.size->w1.heap[b']?=wr.heap[b']?:=fun b' hb'=>by
           refine (ZL.block b' (by have:=MB.size;omega) (fun e=>?_)).trans (MB.block b' (by omega));have:=ZN ZT e.symm;omega
          have hz1:wr.heap.size<=w1.heap.size:=Nat.le_trans MB.size ZL.size;have Q1:=zwr Ny (hgb q hqz);have K1:Z9 (PD Ph.heap.size q q) wr w1:=⟨ZL.os.trans MB.os,ZL.tape.trans MB.tape,ZL.output.trans MB.output,hz1,fun b' hb'=>hgb b' hb'.1⟩;have Yd:w1.ownsRow Ph.heap.size 46 3 (.slice (some ⟨g',0,none⟩) (k+1) cap) (k+1) (XC (XG (pl.drop (16*Zk rs)) (k+1))):=by
           rw [vM.out,qV];exact YZ
          have Po:=hide K1;have HO2:=hide Yd;clear K1 Yd YZ ZL hgb;go_wp2;go_roundw
          case rel=>exact ⟨k+1,_,by omega,by go_num,Nu.trans (Po.out.trans (Z9.set (by unfold PD;omega) 6 _ _)),Q1.set 6 _,Yt HO2.out (by have:=ZN (k:=g') HO2.out rfl;simp [Value.ownBlock];omega) _⟩
          case measure=>simp [intOf];omega
       · obtain rfl:mq=k:=(by omega);clear hkz;have Qd:=R13.kept Nu ⟨by omega,by omega,by omega⟩;obtain ⟨QA,qc,rfl,_⟩:=ZP ZT;obtain ⟨GA,gc,rfl,_⟩:=ZP HQI.out.1;have q0:=Ny.q0 rfl;have q1:=Ny.q1 rfl;have q2:=Ny.q2 rfl;have q3:=Ny.q3 rfl;have q4:=Ny.q4 rfl;have q5:=Ny.q5 rfl;have q6:=Ny.q6 rfl;have r0:=Qd.q0 rfl;have r1:=Qd.q1 rfl;have r2:=Qd.q2 rfl;have r3:=Qd.q3 rfl;have r4:=Qd.q4 rfl;have r5:=Qd.q5 rfl;have r6:=Qd.q6 rfl;have g0:=Qd.frozen 0;have g1:=Qd.frozen 1;have g2:=Qd.frozen 2;have g3:=Qd.frozen 3;have g4:=Qd.frozen 4;have g5:=Qd.frozen 5;have g6:=Qd.frozen 6;have dM:=vD.trans (Nu.below zev.out);have HOWN:=hide ZT;have zbh:=hide Nu;have yyu:=hide Ny;clear ZT Ny;go_wp2;clear q0 q1 q2 q3 q4 q5 q6 r0 r1 r2 r3 r4 r5 r6 g0 g1 g2 g3 g4 g5 g6;obtain ⟨e0,e1,e2,e3,e4,e5,e6⟩:=Tt Qd (.int .i64 op) (.int .i64 vs) (.slice HA rs.length hc) (.int .i64 ZY) (.slice GA rs.length gc) (.slice A1 np pc1) (.slice QA mq qc);rw [HD.out];refine bodyPost_ret (v:=.tuple #[.agg #[.int .i64 op,.int .i64 vs,.slice HA rs.length hc,.int .i64 ZY,.slice GA rs.length gc,.slice A1 np pc1,.slice QA mq qc],.int .i64 0]) (by simp [results,Tryz.results60,go_sem,e0,e1,e2,e3,e4,e5,e6]) rfl ?_;clear e0 e1 e2 e3 e4 e5 e6;obtain ⟨W,hW⟩:=eE (Jd wr w.heap.size (.int .i64 op) (.int .i64 vs) (.slice HA rs.length hc) (.int .i64 ZY) (.slice GA rs.length gc) (.slice A1 np pc1) (.slice QA mq qc));have hWz:wr.heap.size<=W.heap.size:=(by rw [hW,Im];exact Nat.le_refl _);have eW:∀ b',b'≠w.heap.size->W.heap[b']?=wr.heap[b']?:=fun b' hb'=>by rw [hW];exact Dx wr _ _ _ _ _ _ _ _ b' hb'
         have hBW:Below w.heap.size w W:=(by rw [hW];exact Tq dM (Nat.le_refl _) _ _ _ _ _ _ _);have e11:∀ b',b'<Qp.heap.size->b'≠q->b'≠w.heap.size->W.heap[b']?=Qp.heap[b']?:=fun b' h1 h2 h4=>(eW b' h4).trans ((zbh.out.block b' ⟨by omega,h2,h2⟩).trans ((EF.block b' (by omega)).trans (E12.out b' h2)));have er:=fun b' h1 h2 h4=>(e11 b' (Nat.lt_of_lt_of_le h1 (Nat.le_trans zuf ziz)) h2 h4).trans ((BF.block b' (Nat.lt_of_lt_of_le h1 zuf)).trans (VI.block b' h1));have QIW:QI W C gs (.slice GA gs.length gc):=HQI.out.move (by omega) fun b' h1 h2=>er b' h2 (by omega) (by omega)
         have zqr:Sl W w2.heap.size HA (rgCells rs):=HSL.out.at_ fun b' h1 hx x hA hxb=>by
          refine (er b' (by omega) (by omega) ?_).trans ((hkp.block b' (by unfold PD;omega)).trans (hb3.block b' h1));subst hxb;intro e;exact uL hx HSL.out hA (by rw [e];exact R2)
         have zvl:Sl W Qp.heap.size A1 (Zl (XV (pl.drop (16*Zk rs)) np)):=s11.at_ fun b' h1 hx x hA hxb=>by
          have:=f11 x hA;subst hxb;exact e11 _ h1 (by omega) (by omega)
         have zdv:W.ownsRow Ph.heap.size 46 3 (.slice QA mq qc) mq (XC (XG (pl.drop (16*Zk rs)) mq)):=LC HOWN.out fun k hk=>eW k (by have:=ZN HOWN.out hk;omega);show Oa (Um ⟨op,vs,rs,ZY⟩ (bs.drop N),0) w _ (Jd wr w.heap.size _ _ _ _ _ _ _);rw [<- hW];clear hW;have hps:(Um ⟨op,vs,rs,ZY⟩ (bs.drop N)).ps=XV (pl.drop (16*Zk rs)) np:=by
          show XV _ (XI op vs).toNat=_;rw [Sg.out,<- Nc.out];rfl
         have MF:(Um ⟨op,vs,rs,ZY⟩ (bs.drop N)).qs=XG (pl.drop (16*Zk rs)) mq:=by
          show XG _ (Xm op ZY).toNat=_;rw [HMQ.out,<- Nc.out];rfl
         refine ⟨rs,HA,hc,gs,GA,gc,A1,pc1,QA,qc,?_,hBW,?_,by rw [hps,Zj];exact HCAP.out⟩
         · unfold Il;dsimp only;rw [hps,MF,Zj,WJ,hgl];rfl
         · refine ⟨zqr.more (by omega),rfl,Sl.Zv QIW.1,QIW.zxn,?_,?_,?_⟩
           · rw [HGD.out,Nc.out];rfl
           · dsimp only;rw [hps];exact zvl.more (by omega)
           · dsimp only;rw [MF];exact Sl.Zv zdv
 · have hne:(cl != 0)=true:=(by simpa using hc0);rw [if_neg hc0] at HD;have IG:=hide CL;clear CL PA hpe hcl hc0 hby EH hs;go_enter func60,ntmps60;go_wp2_with fail;rw [<- hw0];have HW0:=hide hw0;clear hw0;refine IG.out.mono ?_;rintro e w1 ⟨rfl,hb1⟩;have R1:=R0.step hb1;have r0:=R1.q0 rfl;have r1:=R1.q1 rfl;have r2:=R1.q2 rfl;have r3:=R1.q3 rfl;have r4:=R1.q4 rfl;have r5:=R1.q5 rfl;have r6:=R1.q6 rfl;have f0:=R1.frozen 0;have f1:=R1.frozen 1;have f2:=R1.frozen 2;have f3:=R1.frozen 3;have f4:=R1.frozen 4;have f5:=R1.frozen 5;have f6:=R1.frozen 6;go_wp2;obtain ⟨e0,e1,e2,e3,e4,e5,e6⟩:=Tt R1 (.int .i64 0) (.int .i64 0) (.slice none 0 0) (.int .i64 0) (.slice none 0 0) (.slice none 0 0) (.slice none 0 0);rw [HD.out];exact bodyPost_ret (v:=.tuple #[.agg #[.int .i64 0,.int .i64 0,.slice none 0 0,.int .i64 0,.slice none 0 0,.slice none 0 0,.slice none 0 0],.int .i64 cl]) (by simp [results,Tryz.results60,go_sem,e0,e1,e2,e3,e4,e5,e6]) rfl (Ol (Tq (Z8 hb0 hb1) (Nat.le_refl _) _ _ _ _ _ _ _))
end
end
end Go.Proofs.YthnenedoblncjaaGreatDoor