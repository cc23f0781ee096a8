/- RefRespond -/
import Derived.Deep.AppendLies
import Derived.Deep.RegionHeld3
import Derived.Test.YthnenedoblncjaaGreatDoorPkA08
import Derived.Test.YthnenedoblncjaaGreatDoorPkA12
set_option maxRecDepth 1000000
set_option maxHeartbeats 8000000
namespace Go.Proofs.YthnenedoblncjaaGreatDoor
open Go.Proofs.Tryz
section
open Go.RowKit
theorem zvc{op:Int}(h1:1<=op)(h5:op<=5):∃ (m:Nat) (M:Int),op=(m:Int)/\m<6/\(#[Value.int .i64 0,.int .i64 2,.int .i64 2,.int .i64 3,.int .i64 2,.int .i64 1]:Array Value)[m]?=some (.int .i64 M)/\most (m:Int)=M:=by
 obtain ⟨m,rfl⟩:=Int.eq_ofNat_of_zero_le (show 0<=op by omega);have hm:m=1\/m=2\/m=3\/m=4\/m=5:=by omega
 rcases hm with rfl|rfl|rfl|rfl|rfl <;> exact ⟨_,_,rfl,by omega,rfl,rfl⟩
theorem keepR {R:Nat->Prop} {w0 wk w':World} {b c o1 o2:Nat} {u v1 v2:Value} (hb:R b) (hc:R c) (hk:Z8 R wk w')
 (h:Z8 R w0 wk/\wk.cell? ⟨b,2,none⟩=some u/\wk.cell? ⟨c,o1,none⟩=some v1/\wk.cell? ⟨c,o2,none⟩=some v2) :
 Z8 R w0 w'/\w'.cell? ⟨b,2,none⟩=some u/\w'.cell? ⟨c,o1,none⟩=some v1/\w'.cell? ⟨c,o2,none⟩=some v2 :=
 ⟨h.1.trans hk,hk.on hb h.2.1,hk.on hc h.2.2.1,hk.on hc h.2.2.2⟩
section
variable (op vs Z0:Int)(hrs:List Rg)(HA:Option Addr)(hc:Nat)(val cnt:Int)(recs:List (Int × Int))(RA:Option Addr)(rc:Nat)(w:World)
variable (hh:Sl w w.heap.size HA (rgCells hrs))(hs:Sl w w.heap.size RA (ZA recs))(hrn:recs.length<=maxLen)(hru:∀ r∈recs,Vo r.1/\Vo r.2)
include hh hs hrn hru
theorem Jk:Calls prog 62 #[.agg #[.int .i64 op,.int .i64 vs,.slice HA hrs.length hc,.int .i64 Z0],.agg #[.int .i64 val,.int .i64 cnt,.slice RA recs.length rc]] w (Zy (Yh op vs hrs Z0 val cnt recs) w):=by
 have HH:=hide hh;have HS:=hide hs;have qz:=hide hrn;have HRU:=hide hru;clear hh hs hrn hru;obtain ⟨w0,hw0⟩:=eE ((w.alloc (.cells #[.int .i64 op,.int .i64 vs,.slice HA hrs.length hc,.int .i64 Z0] 53)).alloc (.cells #[.int .i64 val,.int .i64 cnt,.slice RA recs.length rc] 112));have hb0:=bF hw0;have B0:Z6 w0 w.heap.size 53 #[.int .i64 op,.int .i64 vs,.slice HA hrs.length hc,.int .i64 Z0]:=by rw [hw0];exact (Z6.new _ _ _).alloc _
 have A0:Z6 w0 (w.heap.size+1) 112 #[.int .i64 val,.int .i64 cnt,.slice RA recs.length rc]:=by rw [hw0];exact Z6.new2 _ _ _ _
 have b0:=B0.q0 rfl;have b1:=B0.q1 rfl;have b2:=B0.q2 rfl;have b3:=B0.q3 rfl;have hF:=SL op vs Z0 hrs HA hc w0 ((HH.out.below hb0).more hb0.size)
 by_cases he:ZT op vs hrs Z0=0
 · have hf2:ZP op vs hrs Z0=(Zx op vs hrs Z0,0):=(by unfold ZP;rw [if_pos he]);rw [hf2] at hF;have HF:=hide hF;clear hF hf2;have HR:Hid (Yh op vs hrs Z0 val cnt recs=if WQ op Z0 val cnt recs=false then ([],10) else (Zp op val cnt recs,0)):=by
    apply hide;unfold Yh;rw [if_neg (by simpa using he)]
   obtain ⟨ho1,ho2,x1,x2,x3,x4,tO,hpn,x5⟩:=Zu he;have hpp:0<=Z0/\Z0<=4096:=by
    by_cases h5:op=5
    · have:=tO h5;omega
    · have:=hpn h5;omega
   obtain ⟨hp0,hp1⟩:=hpp;clear x1 x2 x3 x4 x5 tO hpn he;go_enter func62,ntmps62;go_wp2_with fail;rw [<- hw0];have HW0:=hide hw0;clear hw0;refine HF.out.mono ?_;rintro e w1 ⟨v,rfl,hv1,hb1⟩;have HB1:=Z9 hb0 hb1;have B1:=B0.step hb1;have A1:=A0.step hb1;clear b0 b1 b2 b3 hv1;have b0:=B1.q0 rfl;have b1:=B1.q1 rfl;have b2:=B1.q2 rfl;have b3:=B1.q3 rfl;have a0:=A1.q0 rfl;have a1:=A1.q1 rfl;have a2:=A1.q2 rfl;obtain ⟨m,M,hm,hm6,hM1,hM2⟩:=zvc ho1 ho2;have IA:=jc vs Z0 val cnt HA RA hrs.length hc rc recs w1 ((HS.out.below HB1).more HB1.size) qz.out hp0 hp1 m hm6 M hM1 hM2;rw [<- hm] at IA;have HIA:=hide IA;clear IA hM1 hM2 hm hm6;go_wp2_with fail;refine HIA.out.mono ?_;rintro e w2 ⟨rfl,hb2⟩;have HB2:=Z9 HB1 hb2;have B2:=B1.step hb2;have A2:=A1.step hb2;obtain ⟨ia,hia⟩:∃ ia,WQ op Z0 val cnt recs=ia:=⟨_,rfl⟩;rw [hia];have HI:=hide hia;clear hia b0 b1 b2 b3 a0 a1 a2;cases ia
   · go_wp2;go_ret2;rw [HR.out,HI.out,if_pos rfl];exact ⟨_,rfl,World.ownsRow_nil _ _ _ _,HB2⟩
   · obtain ⟨hv0,hv3,hrl,hc0,hc1,_⟩:=VH HI.out hp0;have b0:=B2.q0 rfl;have a0:=A2.q0 rfl;have a1:=A2.q1 rfl;have a2:=A2.q2 rfl;obtain ⟨w3,hw3⟩:=eE (w2.alloc (.cells #[.int .u8 0,.int .u8 val] 5));have hb3:=bE hw3;have O3:w3.ownsRow w2.heap.size 5 1 (.slice (some ⟨w2.heap.size,0,none⟩) 2 2) [0,val].length (ZY [0,val]):=Yz (xs:=ZY [0,val]) (by rw [hw3];exact Z6.new _ _ _) (Nat.le_refl _) rfl (by simp [maxLen]);have hz3:w3.heap.size=w2.heap.size+1:=(by rw [hw3];simp);have B3:=B2.step hb3;have A3:=A2.step hb3;have HB3:=Z9 HB2 hb3;have sN:∀ k,k<w.heap.size->Yn w2.heap.size k:=fun k hk=>Nat.lt_of_lt_of_le hk HB2.size;have Ie:Yn w2.heap.size (w.heap.size+1):=A2.lt;have qE:Yn w2.heap.size w.heap.size:=B2.lt;have hP3:∀ k,Yn w2.heap.size k->k<w3.heap.size:=fun k hk=>by unfold Yn at hk;omega
     have Rv:=hide sN;have EB:=hide hP3;have HZ3:=hide hz3;clear sN hP3 hz3;have wZ:=A2.lt;have hBl:=B2.lt;have RW3:RW w3 (Yn w2.heap.size) (.slice (some ⟨w2.heap.size,0,none⟩) 2 2) [0,val]:=vZ O3
     by_cases h5:op=5
     · subst h5;have kL:Hid (Zp 5 val cnt recs=[0,val]++[cnt % 256,cnt / 256]++recs.flatMap XR):=(by apply hide;unfold Zp;rw [if_pos rfl]);obtain ⟨i0,hi,hi0,hi1,hi2⟩:=info_parts Xt;have ED:=hide RW3;have Zw:=RW3.1;subst hw3;have HA3:=hide A3;have zrm:=hide HB3;clear RW3 O3 A3 B3 HB3;go_wp2_with (at_builtin;refine wpList_append_lies _ rfl (.tmp 29) (.tmp 38) 49 rfl 0 5 i0 (.int .u8 0) 1 1 underlying49 hi hi0 hi1 hi2 rfl (by decide) _ _ _ rfl (ZH Zw (bA)) ⟨w2.heap.size+1,0,none⟩ 2 2 [.int .u8 (cnt % 256),.int .u8 (cnt / 256)] rfl rfl ?g1 (by simp [Value.oneCell']) (by omega) (by simp [maxLen]) (by simp) (by omega) (w2.heap.size+2) (by simp) ?g2;rotate_left;intro g' cap w5 YN ZQ hat hlt')
       rotate_left
       · exact ZF (xs:=[.int .u8 (cnt % 256),.int .u8 (cnt / 256)]) (Z6.new2 _ _ _ _)
       · obtain ⟨p1,p2⟩:=Nf (P:=Yn w2.heap.size) EB.out ED.out (bA) YN (news:=[cnt % 256,cnt / 256]) (by simp) (by rw [Yp];rfl) ZQ (by have hat':some w2.heap.size=some g'\/g'=w2.heap.size+2:=hat;simpa [Value.ownBlock] using hat');have RW5:RW w5 (Yn w2.heap.size) (.slice (some ⟨g',0,none⟩) 4 cap) ([0,val]++[cnt % 256,cnt / 256]):=p1;have A3:=HA3.out.kept p2 Ie;have HB3:=zrm.out.trans (p2.below Rv.out);have EB:Hid (∀ k,Yn w2.heap.size k->k<w5.heap.size):=hide fun k hk=>Nat.lt_of_lt_of_le (EB.out k hk) p2.size;clear p1 ED HA3 zrm b0 a0 a1 a2 Zw
         go_loopw [8,9] (fun u i wr=>∃ k:Nat,k<=recs.length/\i=.int .i64 k/\Z8 (Yn w2.heap.size) w5 wr/\RW wr (Yn w2.heap.size) u ([0,val]++[cnt % 256,cnt / 256]++(recs.take k).flatMap XR))
          (fun _ i _=>recs.length - (intOf i).toNat)
         case atStart=>exact ⟨0,by omega,rfl,Z8.refl _ _,by simpa using RW5⟩
         case round =>
          obtain ⟨k,hk,rfl,hkp,hrw⟩:=hrel;have UO:=HB3.trans (hkp.below Rv.out);have r2:=(A3.kept hkp Ie).q2 rfl
          by_cases hlt:k<recs.length
          · obtain ⟨r,hr⟩:∃ r,recs[k]?=some r:=⟨_,List.getElem?_eq_getElem hlt⟩;obtain ⟨b,off,rfl,hb,q0,q1⟩:=(HS.out.below UO).Gl hr;have xq:=Rv.out b hb;have hUU:=HRU.out r (List.mem_of_getElem? hr);have HU:=hide hUU.2;have HT:=hide (YF XR recs k r hr);have hln:([0,val]++[cnt % 256,cnt / 256]++(recs.take k).flatMap XR).length<=200000:=by
             rw [List.length_append,XC XR 9 UJ,List.length_take];simp;omega
            generalize hcs:[0,val]++[cnt % 256,cnt / 256]++(recs.take k).flatMap XR=cs at hrw hln;have xH:=hide hcs;have Tf:∀ j,Yn w2.heap.size j->j<wr.heap.size:=fun j hj=>Nat.lt_of_lt_of_le (EB.out j hj) hkp.size;have hwb:IntKind.u8.wrap r.1=r.1 % 256:=(by rw [IntKind.wrap_u8]);have HWB:=hide hwb;have HRW:=hide hrw;have ZL:=hrw.1
            have C2:∀ wk v1,(Z8 (Yn w2.heap.size) wr wk/\wk.cell? ⟨w.heap.size+1,2,none⟩=some (.slice (some ⟨b,off,none⟩) recs.length rc)/\wk.cell? ⟨b,off+k*2,none⟩=some (.int .u64 r.1)/\wk.cell? ⟨b,off+k*2+1,none⟩=some (.int .u64 r.2))->RW wk (Yn w2.heap.size) v1 (cs++[r.1 % 256]) ->
             Calls prog 59 #[v1,.int .u64 r.2] wk (OM (Yn w2.heap.size) wk (cs++[r.1 % 256]++YH r.2)) :=
             fun wk v1 h1 h2=>Uq (Yn w2.heap.size) _ wk (fun j hj=>Nat.lt_of_lt_of_le (Tf j hj) h1.1.size) (by rw [List.length_append];simp;omega) v1 h2 _ HU.out
            have OD:=hide C2;have EC:=hide Tf;obtain ⟨i0,hi,hi0,hi1,hi2⟩:=info_parts Xt;have hk0:(0:Int)<=(k:Int):=(by omega);have hkl:(k:Int)<(recs.length:Int):=(by omega);clear C2 hr hcs hUU Tf hwb hrw;go_wp2
            go_region_held3 (fun w'=>Z8 (Yn w2.heap.size) wr w'/\w'.cell? ⟨w.heap.size+1,2,none⟩=some (.slice (some ⟨b,off,none⟩) recs.length rc)/\w'.cell? ⟨b,off+k*2,none⟩=some (.int .u64 r.1)/\w'.cell? ⟨b,off+k*2+1,none⟩=some (.int .u64 r.2))
             (first|exact keepR Ie xq (Z8.drew _ _) ⟨Z8.refl _ _,r2,q0,q1⟩|exact keepR Ie xq (Z8.of_below (ZU (bA)) EC.out) ⟨Z8.refl _ _,r2,q0,q1⟩|exact ⟨Z8.refl _ _,r2,q0,q1⟩|exact keepR Ie xq (by assumption:Z8 (Yn w2.heap.size) wr _) ⟨Z8.refl _ _,r2,q0,q1⟩|exact keepR Ie xq (by assumption) (by assumption))
             (first
               | (refine step_append_lies _ (by rfl) (.tmp 47) (.tmp 55) 49 (by rfl) 0 5 i0 (.int .u8 0) 1 1 underlying49 hi hi0 hi1 hi2 (by rfl) (by decide) u8 _ _ (by rfl) (ZH ZL (ZU (bA))) ⟨wr.heap.size,0,none⟩ 1 1 [.int .u8 (IntKind.u8.wrap r.1)] (by rfl) (by rfl) (ZF (Z6.new _ _ _).drew) (by simp [Value.oneCell']) (by omega) (by unfold maxLen;omega) (by omega) (by omega) (wr.heap.size+1) (by simp) ?_;intro g' cap w7 YN ZQ hat hlt';obtain ⟨p1,p2⟩:=Nf EC.out HRW.out (ZU (bA)) YN (news:=[r.1 % 256]) (by simp) (by rw [HWB.out,Yp];rfl) ZQ (by simpa using hat))
               | (go_at_call 59;((with_reducible refine (OD.out _ _ (by assumption) (by assumption)).mono ?_);rintro e w' ⟨v',rfl,k',r'⟩)))
            have r3:RW w' (Yn w2.heap.size) v' (cs++XR r):=by
             rw [List.append_assoc] at r';exact r'
            clear r2 q0 q1;go_wp2;go_roundw
            case rel=>exact ⟨k+1,by omega,by go_num,hkp.trans (p2.trans k'),by rw [HT.out,<- List.append_assoc,xH.out];exact r3⟩
            case measure=>simp [intOf];omega
          · obtain rfl:recs.length=k:=(by omega);rw [List.take_length] at hrw;generalize Ig:[0,val]++[cnt % 256,cnt / 256]++recs.flatMap XR=bF at hrw;have qM:=hide Ig;clear Ig;have SS:=DX (base':=w.heap.size) hrw HB2.size;obtain ⟨QA,Du,rfl,_⟩:=Zl SS;go_wp2;go_ret2;rw [HR.out,HI.out,if_neg (by simp),kL.out,qM.out];exact ⟨.slice QA _ Du,rfl,SS,UO⟩
     · have h5':(op == 5)=false:=(by simpa using h5);have kL:Hid (Zp op val cnt recs=[0,val]++recs.flatMap XR):=(by apply hide;unfold Zp;rw [if_neg h5,List.append_nil]);clear h5;go_wp2;rw [<- hw3];have HW3:=hide hw3;clear hw3 b0 a0 a1 a2
       go_loopw [8,9] (fun u i wr=>∃ k:Nat,k<=recs.length/\i=.int .i64 k/\Z8 (Yn w2.heap.size) w3 wr/\RW wr (Yn w2.heap.size) u ([0,val]++(recs.take k).flatMap XR))
        (fun _ i _=>recs.length - (intOf i).toNat)
       case atStart=>exact ⟨0,by omega,rfl,Z8.refl _ _,by simpa using RW3⟩
       case round =>
        obtain ⟨k,hk,rfl,hkp,hrw⟩:=hrel;have UO:=HB3.trans (hkp.below Rv.out);have r2:=(A3.kept hkp Ie).q2 rfl
        by_cases hlt:k<recs.length
        · obtain ⟨r,hr⟩:∃ r,recs[k]?=some r:=⟨_,List.getElem?_eq_getElem hlt⟩;obtain ⟨b,off,rfl,hb,q0,q1⟩:=(HS.out.below UO).Gl hr;have xq:=Rv.out b hb;have hUU:=HRU.out r (List.mem_of_getElem? hr);have HU:=hide hUU.2;have HT:=hide (YF XR recs k r hr);have hln:([0,val]++(recs.take k).flatMap XR).length<=200000:=by
           rw [List.length_append,XC XR 9 UJ,List.length_take];simp;omega
          generalize hcs:[0,val]++(recs.take k).flatMap XR=cs at hrw hln;have xH:=hide hcs;have Tf:∀ j,Yn w2.heap.size j->j<wr.heap.size:=fun j hj=>Nat.lt_of_lt_of_le (EB.out j hj) hkp.size;have hwb:IntKind.u8.wrap r.1=r.1 % 256:=(by rw [IntKind.wrap_u8]);have HWB:=hide hwb;have HRW:=hide hrw;have ZL:=hrw.1
          have C2:∀ wk v1,(Z8 (Yn w2.heap.size) wr wk/\wk.cell? ⟨w.heap.size+1,2,none⟩=some (.slice (some ⟨b,off,none⟩) recs.length rc)/\wk.cell? ⟨b,off+k*2,none⟩=some (.int .u64 r.1)/\wk.cell? ⟨b,off+k*2+1,none⟩=some (.int .u64 r.2))->RW wk (Yn w2.heap.size) v1 (cs++[r.1 % 256]) ->
           Calls prog 59 #[v1,.int .u64 r.2] wk (OM (Yn w2.heap.size) wk (cs++[r.1 % 256]++YH r.2)) :=
           fun wk v1 h1 h2=>Uq (Yn w2.heap.size) _ wk (fun j hj=>Nat.lt_of_lt_of_le (Tf j hj) h1.1.size) (by rw [List.length_append];simp;omega) v1 h2 _ HU.out
          have OD:=hide C2;have EC:=hide Tf;obtain ⟨i0,hi,hi0,hi1,hi2⟩:=info_parts Xt;have hk0:(0:Int)<=(k:Int):=(by omega);have hkl:(k:Int)<(recs.length:Int):=(by omega);clear C2 hr hcs hUU Tf hwb hrw;go_wp2
          go_region_held3 (fun w'=>Z8 (Yn w2.heap.size) wr w'/\w'.cell? ⟨w.heap.size+1,2,none⟩=some (.slice (some ⟨b,off,none⟩) recs.length rc)/\w'.cell? ⟨b,off+k*2,none⟩=some (.int .u64 r.1)/\w'.cell? ⟨b,off+k*2+1,none⟩=some (.int .u64 r.2))
           (first|exact keepR Ie xq (Z8.drew _ _) ⟨Z8.refl _ _,r2,q0,q1⟩|exact keepR Ie xq (Z8.of_below (ZU (bA)) EC.out) ⟨Z8.refl _ _,r2,q0,q1⟩|exact ⟨Z8.refl _ _,r2,q0,q1⟩|exact keepR Ie xq (by assumption:Z8 (Yn w2.heap.size) wr _) ⟨Z8.refl _ _,r2,q0,q1⟩|exact keepR Ie xq (by assumption) (by assumption))
           (first
             | (refine step_append_lies _ (by rfl) (.tmp 47) (.tmp 55) 49 (by rfl) 0 5 i0 (.int .u8 0) 1 1 underlying49 hi hi0 hi1 hi2 (by rfl) (by decide) u8 _ _ (by rfl) (ZH ZL (ZU (bA))) ⟨wr.heap.size,0,none⟩ 1 1 [.int .u8 (IntKind.u8.wrap r.1)] (by rfl) (by rfl) (ZF (Z6.new _ _ _).drew) (by simp [Value.oneCell']) (by omega) (by unfold maxLen;omega) (by omega) (by omega) (wr.heap.size+1) (by simp) ?_;intro g' cap w5 YN ZQ hat hlt';obtain ⟨p1,p2⟩:=Nf EC.out HRW.out (ZU (bA)) YN (news:=[r.1 % 256]) (by simp) (by rw [HWB.out,Yp];rfl) ZQ (by simpa using hat))
             | (go_at_call 59;((with_reducible refine (OD.out _ _ (by assumption) (by assumption)).mono ?_);rintro e w' ⟨v',rfl,k',r'⟩)))
          have r3:RW w' (Yn w2.heap.size) v' (cs++XR r):=by
           rw [List.append_assoc] at r';exact r'
          clear r2 q0 q1;go_wp2;go_roundw
          case rel=>exact ⟨k+1,by omega,by go_num,hkp.trans (p2.trans k'),by rw [HT.out,<- List.append_assoc,xH.out];exact r3⟩
          case measure=>simp [intOf];omega
        · obtain rfl:recs.length=k:=(by omega);rw [List.take_length] at hrw;generalize Ig:[0,val]++recs.flatMap XR=bF at hrw;have qM:=hide Ig;clear Ig;have SS:=DX (base':=w.heap.size) hrw HB2.size;obtain ⟨QA,Du,rfl,_⟩:=Zl SS;go_wp2;go_ret2;rw [HR.out,HI.out,if_neg (by simp),kL.out,qM.out];exact ⟨.slice QA _ Du,rfl,SS,UO⟩
 · have hf:Yh op vs hrs Z0 val cnt recs=([],ZT op vs hrs Z0):=(by unfold Yh;rw [if_pos he]);have hf2:ZP op vs hrs Z0=([],ZT op vs hrs Z0):=(by unfold ZP;rw [if_neg he]);rw [hf];rw [hf2] at hF;have he':(ZT op vs hrs Z0 != 0)=true:=(by rw [bne_iff_ne];exact he);have HF:=hide hF;clear hF hf2 hf;have HE:=hide he;clear he;go_enter func62,ntmps62;go_wp2_with fail;rw [<- hw0];have HW0:=hide hw0;clear hw0;refine HF.out.mono ?_;rintro e w1 ⟨v,rfl,hv1,hb1⟩;go_wp2;go_ret2;exact ⟨_,rfl,World.ownsRow_nil _ _ _ _,Z9 hb0 hb1⟩
end
end
end Go.Proofs.YthnenedoblncjaaGreatDoor