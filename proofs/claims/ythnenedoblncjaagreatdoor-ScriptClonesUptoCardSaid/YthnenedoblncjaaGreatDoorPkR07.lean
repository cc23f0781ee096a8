/- Respond -/
import Derived.Deep.AppendLies
import Derived.Deep.RegionLaw
import Derived.Test.YthnenedoblncjaaGreatDoorPkR04
import Derived.Test.YthnenedoblncjaaGreatDoorPkR05
set_option maxRecDepth 1000000
set_option maxHeartbeats 8000000
namespace Go.Proofs.YthnenedoblncjaaGreatDoor
open Go.Proofs.Tryz
section
open Go.RowKit
def Zn(op val cnt:Int)(recs:List (Int × Int)):List Int:=[0,val]++(if op=5 then [cnt % 256,cnt / 256] else [])++recs.flatMap Vp
def UZ(op vs:Int)(hrs:List Rg)(ZY val cnt:Int)(recs:List (Int × Int)):List Int × Int :=
 if ZM op vs hrs ZY≠0 then ([],ZM op vs hrs ZY)
 else if Vr op ZY val cnt recs=false then ([],10)
 else (Zn op val cnt recs,0)
theorem zzt(op:Int):most op<=3:=by unfold most;split <;> (try split) <;> omega
theorem Tc{op ZY val cnt:Int}{recs:List (Int × Int)}(h:Vr op ZY val cnt recs=true)(hp:0<=ZY):0<=val/\val<=3/\(recs.length:Int)=ZY/\0<=cnt/\cnt<=ZY/\WV cnt 0 recs=true:=by
 have hm:=zzt op;unfold Vr at h
 by_cases c1:val<0
 · rw [if_pos c1] at h;cases h
 rw [if_neg c1] at h
 by_cases c2:most op<val
 · rw [if_pos c2] at h;cases h
 rw [if_neg c2] at h
 by_cases c3:(recs.length:Int)≠ZY
 · rw [if_pos c3] at h;cases h
 rw [if_neg c3] at h
 by_cases c4:cnt<0
 · rw [if_pos c4] at h;cases h
 rw [if_neg c4] at h
 by_cases c5:IK val ZY<cnt
 · rw [if_pos c5] at h;cases h
 rw [if_neg c5] at h;have hl:IK val ZY<=ZY:=by unfold IK;split <;> omega
 exact ⟨by omega,by omega,by omega,by omega,by omega,h⟩
theorem zjf(op:Int):∃ M,(op=3/\M=3\/op=5/\M=1\/(op == 3)=false/\(op == 5)=false/\M=2)/\most op=M:=by
 by_cases h3:op=3
 · exact ⟨3,.inl ⟨h3,rfl⟩,by unfold most;rw [if_pos h3]⟩
 · by_cases h5:op=5
   · exact ⟨1,.inr (.inl ⟨h5,rfl⟩),by unfold most;rw [if_neg h3,if_pos h5]⟩
   · exact ⟨2,.inr (.inr ⟨by simpa using h3,by simpa using h5,rfl⟩),by unfold most;rw [if_neg h3,if_neg h5]⟩
section
variable (op vs ZY:Int)(hrs:List Rg)(HA:Option Addr)(hc:Nat)(val cnt:Int)(recs:List (Int × Int))(RA:Option Addr)(rc:Nat)(w:World)
variable (hh:Sl w w.heap.size HA (rgCells hrs))(hn:hrs.length<=maxLen)(hs:Sl w w.heap.size RA (Zb recs))(hrn:recs.length<=maxLen)
include hh hn hs hrn
theorem Di:Calls prog 166 #[.agg #[.int .i64 op,.int .i64 vs,.slice HA hrs.length hc,.int .i64 ZY],.agg #[.int .i64 val,.int .i64 cnt,.slice RA recs.length rc]] w (Xj (UZ op vs hrs ZY val cnt recs) w):=by
 have HH:=hide hh;have HS:=hide hs;have HRN:=hide hrn;clear hh hs hrn;obtain ⟨w0,hw0⟩:=eE ((w.alloc (.cells #[.int .i64 op,.int .i64 vs,.slice HA hrs.length hc,.int .i64 ZY] 53)).alloc (.cells #[.int .i64 val,.int .i64 cnt,.slice RA recs.length rc] 175));have hb0:=bF hw0;have B0:Z7 w0 w.heap.size 53 #[.int .i64 op,.int .i64 vs,.slice HA hrs.length hc,.int .i64 ZY]:=by rw [hw0];exact (Z7.new _ _ _).alloc _
 have A0:Z7 w0 (w.heap.size+1) 175 #[.int .i64 val,.int .i64 cnt,.slice RA recs.length rc]:=by rw [hw0];exact Z7.new2 _ _ _ _
 have b0:=B0.q0 rfl;have b1:=B0.q1 rfl;have b2:=B0.q2 rfl;have b3:=B0.q3 rfl;have hF:=SX vs hrs HA hc ZY w0 ((HH.out.below hb0).more hb0.size) hn op
 by_cases he:ZM op vs hrs ZY=0
 · have hf2:Ze op vs hrs ZY=(Zo op vs hrs ZY,0):=(by unfold Ze;rw [if_pos he]);rw [hf2] at hF;have HF:=hide hF;clear hF hf2;have HR:Hid (UZ op vs hrs ZY val cnt recs=if Vr op ZY val cnt recs=false then ([],10) else (Zn op val cnt recs,0)):=by
    apply hide;unfold UZ;rw [if_neg (by simpa using he)]
   obtain ⟨ho1,ho2,x1,x2,x3,x4,hp5,hpn,x5⟩:=ZA he;have hpp:0<=ZY/\ZY<=4096:=by
    by_cases h5:op=5
    · have:=hp5 h5;omega
    · have:=hpn h5;omega
   obtain ⟨hp0,hp1⟩:=hpp;clear x1 x2 x3 x4 x5 hp5 hpn he;go_enter func166,ntmps166;go_wp2_with fail;rw [<- hw0];have HW0:=hide hw0;clear hw0;refine HF.out.mono ?_;rintro e w1 ⟨v,rfl,hv1,hb1⟩;have HB1:=Z8 hb0 hb1;have B1:=B0.step hb1;have A1:=A0.step hb1;clear b0 b1 b2 b3 hv1;have b0:=B1.q0 rfl;have b1:=B1.q1 rfl;have b2:=B1.q2 rfl;have b3:=B1.q3 rfl;have a0:=A1.q0 rfl;have a1:=A1.q1 rfl;have a2:=A1.q2 rfl;obtain ⟨M,hM1,hM2⟩:=zjf op;have IA:=Ci op vs ZY val cnt HA RA hrs.length hc rc recs w1 ((HS.out.below HB1).more HB1.size) HRN.out hp0 hp1 M hM1 hM2;have HIA:=hide IA;clear IA hM1 hM2;go_wp2_with fail;refine HIA.out.mono ?_;rintro e w2 ⟨rfl,hb2⟩;have HB2:=Z8 HB1 hb2;have B2:=B1.step hb2;have A2:=A1.step hb2;obtain ⟨ia,hia⟩:∃ ia,Vr op ZY val cnt recs=ia:=⟨_,rfl⟩;rw [hia];have HI:=hide hia;clear hia b0 b1 b2 b3 a0 a1 a2;cases ia
   · go_wp2;go_ret2;rw [HR.out,HI.out,if_pos rfl];exact ⟨_,rfl,World.ownsRow_nil _ _ _ _,HB2⟩
   · obtain ⟨hv0,hv3,hrl,hc0,hc1,_⟩:=Tc HI.out hp0;have b0:=B2.q0 rfl;have a0:=A2.q0 rfl;have a1:=A2.q1 rfl;have a2:=A2.q2 rfl;have hmf:∀ (fn:Fn) (first cap:Array Value) (w:World),(Instr.makeFunc fn first cap).run prog w=.ok (.func fn first cap) w:=fun _ _ _ _=>rfl;obtain ⟨w3,hw3⟩:=eE (w2.alloc (.cells #[.int .u8 0,.int .u8 val] 5));have hb3:=bE hw3;have hz3:w3.heap.size=w2.heap.size+1:=(by rw [hw3];simp);have O3:w3.ownsRow w2.heap.size 5 1 (.slice (some ⟨w2.heap.size,0,none⟩) 2 2) 2 (ZU [0,val]):=Xz (xs:=ZU [0,val]) (by rw [hw3];exact Z7.new _ _ _) (Nat.le_refl _) rfl (by unfold maxLen;omega);have WS4:=mK (bs:=[0,val]) O3 hb3.size;obtain ⟨w4,hw4⟩:=eE (w3.alloc (.cells #[.slice (some ⟨w2.heap.size,0,none⟩) 2 2] 250));rw [<- hw4] at WS4;have hb4:=bE hw4;have B4:=(B2.step hb3).step hb4;have A4:=(A2.step hb3).step hb4;have LM:=Z8 (Z8 HB2 hb3) hb4;have hLT:∀ k,k<w.heap.size->Qb w2.heap.size k:=fun k hk=>Nat.lt_of_lt_of_le hk HB2.size;have hPA:Qb w2.heap.size (w.heap.size+1):=A2.lt;have hPB:Qb w2.heap.size w.heap.size:=B2.lt;have zS:∀ k,Qb w2.heap.size k->k<w4.heap.size:=fun k hk=>by have:=hb4.size;unfold Qb at hk;omega
     have F9:=hide hLT;have nM:=hide zS;have HZ3:=hide hz3;clear hLT zS;have iA:=A2.lt;have hBl:=B2.lt
     by_cases h5:op=5
     · subst h5;have nD:Hid (Zn 5 val cnt recs=([0,val]++[cnt % 256,cnt / 256])++recs.flatMap Vp):=(by apply hide;unfold Zn;rw [if_pos rfl]);have G4:Z7 w4 w3.heap.size 250 #[.slice (some ⟨w2.heap.size,0,none⟩) 2 2]:=(by rw [hw4];exact Z7.new _ _ _);have O4:w4.ownsRow 0 5 1 (.slice (some ⟨w2.heap.size,0,none⟩) 2 2) [0,val].length (ZU [0,val]):=ZI (VT O3 (Nat.zero_le _)) hb4;have hNP:¬ Qb w2.heap.size w3.heap.size:=by unfold Qb;omega
       have hVP:∀ k,(Value.slice (some ⟨w2.heap.size,0,none⟩) 2 2).ownBlock=some k->¬ Qb w2.heap.size k:=fun k hk=>by
        have:w2.heap.size=k:=(by simpa [Value.ownBlock] using hk);unfold Qb;omega
       have hNE:(Value.slice (some ⟨w2.heap.size,0,none⟩) 2 2).ownBlock≠some w3.heap.size:=by
        simp [Value.ownBlock];omega
       have Sg:=hide hNP;have HVP:=hide hVP;have HO4:=hide O4;have yzh:w3.heap.size<w4.heap.size:=G4.lt;clear hNP hVP O4 O3 WS4 hz3;go_wp2;rw [<- hw3,<- hw4,<- HZ3.out];have HW3:=hide hw3;have HW4:=hide hw4;clear hw3 hw4 b0 a0 a1 a2;have a1:=A4.q1 rfl;have g0:=G4.q0 rfl;have f0:=G4.frozen 0;have hGl:=G4.lt;have yyy:=A4.lt;obtain ⟨i0,hi,hi0,hi1,hi2⟩:=info_parts UE;have hq0:IntKind.u8.wrap cnt=cnt % 256:=(by rw [IntKind.wrap_u8]);have hq1:IntKind.u8.wrap (cnt / 256)=cnt / 256:=by rw [IntKind.wrap_u8];omega
       go_region_law ((refine step_append_lies _ (by rfl) (.tmp 34) (.tmp 42) 49 (by rfl) 0 5 i0 (.int .u8 0) 1 1 underlying49 hi hi0 hi1 hi2 (by rfl) (by decide) (.slice (some ⟨w2.heap.size,0,none⟩) 2 2) _ _ (by rfl) (ZI HO4.out (ZV (bA))) ⟨w4.heap.size,0,none⟩ 2 2 [.int .u8 (cnt % 256),.int .u8 (cnt / 256)] (by rfl) (by rfl) (ZB (Z7.new _ _ _).drew) (by simp [Value.oneCell']) (by omega) (by simp [maxLen]) (by simp) (by omega) (w4.heap.size+1) (by simp) ?_;intro g' cap w5 YZ ZL hat hlt';have c1:=(World.grownBy.cell_far ZL ⟨w3.heap.size,0,none⟩ (by simp;omega) (Ne.symm hNE)).trans (keepW ⟨g0,f0⟩ (ZV (bA))).1;have f1:=(World.grownBy.frozen_far ZL ⟨w3.heap.size,0,none⟩ (by simp;omega) (Ne.symm hNE)).trans (keepW ⟨g0,f0⟩ (ZV (bA))).2))
       all_goals
        obtain ⟨p1,p2⟩:=F5 (P:=Qb w2.heap.size) nM.out G4 Sg.out hNE HVP.out (ZV (bA)) YZ (bs:=[0,val]) (news:=[cnt % 256,cnt / 256]) (by simp) (by rw [Ww];rfl) ZL (by simpa using hat) rfl;have p1':WS (w5.setCell ⟨w3.heap.size,0,none⟩ (.slice (some ⟨g',0,none⟩) 4 cap)) (Qb w2.heap.size) w3.heap.size ([0,val]++[cnt % 256,cnt / 256]):=p1;have p2':Z9 (Qb w2.heap.size) w4 (w5.setCell ⟨w3.heap.size,0,none⟩ (.slice (some ⟨g',0,none⟩) 4 cap)):=p2;clear p1 p2;have A5:=A4.kept p2' hPA;clear a1 g0 f0 c1 f1;have a2:=A5.q2 rfl;go_wp2_with fail;refine (Mt (Qb w2.heap.size) w3.heap.size _ _ w.heap.size RA rc (fun k hk=>Nat.lt_of_lt_of_le (nM.out k hk) p2'.size) p1' (by simp) F9.out recs ((HS.out.below LM).kept p2' F9.out) (by omega)).mono ?_;rintro e w6 ⟨rfl,k5,s5⟩;obtain ⟨bF,cO⟩:=eE ([0,val]++[cnt % 256,cnt / 256]++recs.flatMap Vp);rw [<- cO] at s5;have HBF:=hide cO;clear cO;obtain ⟨rv,cv,Dm⟩:=F6 (base':=w.heap.size) s5 HB2.size;obtain ⟨QA,zuq,rfl,_⟩:=ZP Dm;clear a2;go_wp2;go_ret2;rw [HR.out,HI.out,if_neg (by simp),nD.out,<- HBF.out];exact ⟨.slice QA _ zuq,rfl,Dm,LM.trans ((p2'.trans k5).below F9.out)⟩
     · have h5':(op == 5)=false:=(by simpa using h5);have nD:Hid (Zn op val cnt recs=[0,val]++recs.flatMap Vp):=(by apply hide;unfold Zn;rw [if_neg h5,List.append_nil]);clear h5 hz3;go_wp2_with fail;rw [<- hw3,<- hw4,<- HZ3.out];have HW3:=hide hw3;have HW4:=hide hw4;clear hw3 hw4 b0 a0 a1 a2;refine (Mt (Qb w2.heap.size) w3.heap.size [0,val] w4 w.heap.size RA rc nM.out WS4 (by simp) F9.out recs (HS.out.below LM) (by omega)).mono ?_;rintro e w5 ⟨rfl,k5,s5⟩;obtain ⟨bF,cO⟩:=eE ([0,val]++recs.flatMap Vp);rw [<- cO] at s5;have HBF:=hide cO;clear cO;obtain ⟨rv,cv,Dm⟩:=F6 (base':=w.heap.size) s5 HB2.size;obtain ⟨QA,zuq,rfl,_⟩:=ZP Dm;go_wp2;go_ret2;rw [HR.out,HI.out,if_neg (by simp),nD.out,<- HBF.out];exact ⟨.slice QA _ zuq,rfl,Dm,LM.trans (k5.below F9.out)⟩
 · have hf:UZ op vs hrs ZY val cnt recs=([],ZM op vs hrs ZY):=(by unfold UZ;rw [if_pos he]);have hf2:Ze op vs hrs ZY=([],ZM op vs hrs ZY):=(by unfold Ze;rw [if_neg he]);rw [hf];rw [hf2] at hF;have he':(ZM op vs hrs ZY != 0)=true:=(by rw [bne_iff_ne];exact he);have HF:=hide hF;clear hF hf2 hf;have HE:=hide he;clear he;go_enter func166,ntmps166;go_wp2_with fail;rw [<- hw0];have HW0:=hide hw0;clear hw0;refine HF.out.mono ?_;rintro e w1 ⟨v,rfl,hv1,hb1⟩;go_wp2;go_ret2;exact ⟨_,rfl,World.ownsRow_nil _ _ _ _,Z8 hb0 hb1⟩
end
end
end Go.Proofs.YthnenedoblncjaaGreatDoor