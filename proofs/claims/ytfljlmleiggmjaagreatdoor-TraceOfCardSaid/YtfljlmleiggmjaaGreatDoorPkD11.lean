/- RefWord RefEncode -/
import Derived.Deep.RegionHeld3
import Derived.Test.YtfljlmleiggmjaaGreatDoorPkD05
import Derived.Test.YtfljlmleiggmjaaGreatDoorPkD10
set_option maxRecDepth 1000000
set_option maxHeartbeats 8000000
namespace Go.Proofs.YtfljlmleiggmjaaGreatDoor
open Go.Proofs.Tryz
section
open Go.RowKit
def RW(w:World)(P:Nat->Prop)(v:Value)(bs:List Int):Prop :=
 w.ownsRow 0 5 1 v bs.length (ZY bs)/\∀ k,v.ownBlock=some k->¬ P k
theorem RW.step{w w':World}{P:Nat->Prop}{v:Value}{bs:List Int}(h:RW w P v bs)(hb:Below w.heap.size w w'):RW w' P v bs:=⟨ZO h.1 hb,h.2⟩
theorem RW.mono{w:World}{P R:Nat->Prop}{v:Value}{bs:List Int}(h:RW w P v bs)(hR:∀ k,R k->P k):RW w R v bs:=⟨h.1,fun k hk hr=>h.2 k hk (hR k hr)⟩
theorem RW.more{w w':World}{P:Nat->Prop}{v:Value}{bs:List Int}(h:RW w P v bs)(hb:Below w.heap.size w w'):RW w' (More P w w') v bs:=by
 refine ⟨ZO h.1 hb,fun k hk hp=>?_⟩;have:=SX h.1 hk;rcases hp with hp|hp
 · exact h.2 k hk hp
 · omega
theorem LY {wr wa w1:World} {P:Nat->Prop} {g' cap n:Nat} {v:Value} {bs news:List Int} {xs:List Value} (hP:∀ k,P k->k<wr.heap.size) (h:RW wr P v bs) (hb:Below wr.heap.size wr wa)
 (Zn:w1.ownsRow 0 5 1 (.slice (some ⟨g',0,none⟩) n cap) n xs) (hn:n=(bs++news).length) (hx:xs=ZY (bs++news)) (ZL:wa.grownBy w1 v.ownBlock) (hat:v.ownBlock=some g'\/g'=wa.heap.size) :
 RW w1 P (.slice (some ⟨g',0,none⟩) n cap) (bs++news)/\Z8 P wr w1:=by
 subst hn hx;have zxi:¬ P g':=by
  rcases hat with h1|h1
  · exact h.2 g' h1
  · intro hp;have:=hP g' hp;have:=hb.size;omega
 refine ⟨⟨Zn,fun k hk=>by
  have:g'=k:=by simpa [Value.ownBlock] using hk
  subst this;exact zxi⟩,ZL.os.trans hb.os,ZL.tape.trans hb.tape,ZL.output.trans hb.output,Nat.le_trans hb.size ZL.size,fun k hk=>?_⟩
 have hkl:=hP k hk;exact (ZL.block k (Nat.lt_of_lt_of_le hkl hb.size) (fun e=>h.2 k e.symm hk)).trans (hb.block k hkl)
def Nv(P:Nat->Prop)(w:World)(bs:List Int)(e:Ending)(w':World):Prop:=∃ v',e=.returned v'/\Z8 P w w'/\RW w' P v' bs
section
variable (P:Nat->Prop)(bs:List Int)(w:World)
variable (hP:∀ k,P k->k<w.heap.size)(hlen:bs.length<=1000000)
include hP hlen
theorem TL(v:Value)(hv:RW w P v bs)(x:Int)(hx:Uf x):Calls prog 96 #[v,.int .u64 x] w (Nv P w (bs++XU x)):=by
 have HP:=hide hP;clear hP;go_enter func96,ntmps96;go_wp2
 go_loopw [0,1,5] (fun u y i wr=>∃ (k:Nat) (z:Int),k<=8/\i=.int .i64 k/\y=.int .u64 z/\z=x / 256 ^ k/\Z8 P w wr/\RW wr P u (bs++(XU x).take k))
  (fun _ _ i _=>8 - (intOf i).toNat)
 case atStart=>exact ⟨0,x,by omega,rfl,rfl,by simp,Z8.refl _ _,by simpa using hv⟩
 case round =>
  obtain ⟨k,z,hk,rfl,rfl,hz,hbr,hrw⟩:=hrel;have hzU:Uf z:=by rw [hz];exact hx.div k
  have hz0:=hzU.nonneg;have HZ:=hide hz;clear hz
  by_cases hlt:k<8
  · obtain ⟨i0,hi,hi0,hi1,hi2⟩:=info_parts WB;have hln:(bs++List.take k (XU x)).length<=1000008:=(by rw [List.length_append,List.length_take,VO];omega);have hsn:∀ cs,cs=bs++List.take k (XU x)->bs++List.take (k+1) (XU x)=cs++[z % 256]:=fun cs h=>by rw [h,Lm x k hlt,List.append_assoc,HZ.out]
    generalize hcs:bs++List.take k (XU x)=cs at hrw hln hsn;have HS:=hide (hsn cs rfl);clear hsn hcs;have zjq:=hbr.size;have zko:=hrw.1;have tJ:=hide hbr;have HRW:=hide hrw;clear hbr hrw;go_wp2_with (at_builtin;refine wpList_append_lies _ rfl (.tmp 10) (.tmp 14) 36 rfl 0 5 i0 (.int .u8 0) 1 1 underlying36 hi hi0 hi1 hi2 rfl (by decide) _ _ _ rfl (ZO zko (bA)) ⟨wr.heap.size,0,none⟩ 1 1 [.int .u8 (z % 256)] rfl rfl (ZI (Z6.new _ _ _)) (by simp [Value.oneCell']) (by omega) (by unfold maxLen;omega) (by omega) (by omega) (wr.heap.size+1) (by simp) ?_;intro g' cap w1 Zn ZL hat hlt');obtain ⟨p1,p2⟩:=LY (P:=P) (fun k hk=>Nat.lt_of_lt_of_le (HP.out k hk) zjq) HRW.out (bA) Zn (news:=[z % 256]) (by simp) (by rw [XZ];rfl) ZL (by have hat':u0.ownBlock=some g'\/g'=wr.heap.size+1:=hat;simpa using hat');go_roundw
    case rel=>exact ⟨k+1,z / 256,by omega,by go_num,by rw [hzU.quo],by rw [HZ.out,MH],tJ.out.trans p2,by rw [HS.out];exact p1⟩
    case measure=>simp [intOf];omega
  · have hk':k=8:=(by omega);subst hk';go_wp2;go_ret;exact ⟨_,rfl,hbr,hrw⟩
theorem P8(v:Value)(hv:RW w P v bs)(d9:bs.length<=900000)(x y:Int):Calls prog 135 #[v,.agg #[.int .i64 x,.int .i64 y]] w (Nv P w (bs++Xx (x,y))):=by
 obtain ⟨w0,hw0⟩:=eE (w.alloc (.cells #[.int .i64 x,.int .i64 y] 123));have hb:=bE hw0;have hz:w0.heap.size=w.heap.size+1:=by rw [hw0];simp
 have B0:Z6 w0 w.heap.size 123 #[.int .i64 x,.int .i64 y]:=by rw [hw0];exact Z6.new _ _ _
 have hP1:=Yg hP hb;have h0:=hv.more hb;have hm:∀ w1,Z8 (More P w w0) w0 w1->Z8 P w w1:=fun w1=>Z8.more hb hP;have hRk:More P w w0 w.heap.size:=.inr ⟨Nat.le_refl _,by omega⟩;have HM:=hide hm;have HZ:=hide hz;clear hm hz hP;have L9:=hide hP1;clear hP1;have d0:=B0.q0 rfl;have d1:=B0.q1 rfl;have C1:=TL (More P w w0) bs w0.drew L9.out (by omega) v h0 (IntKind.u64.wrap x) (EP x)
 have C2:∀ wk v1,(Z8 (More P w w0) w0 wk/\wk.cell? ⟨w.heap.size,0,none⟩=some (.int .i64 x)/\wk.cell? ⟨w.heap.size,1,none⟩=some (.int .i64 y))->RW wk (More P w w0) v1 (bs++XU (IntKind.u64.wrap x)) ->
  Calls prog 96 #[v1,.int .u64 (IntKind.u64.wrap y)] wk (Nv (More P w w0) wk (bs++XU (IntKind.u64.wrap x)++XU (IntKind.u64.wrap y))) :=
  fun wk v1 h1 h2=>TL (More P w w0) _ wk (fun k hk=>Nat.lt_of_lt_of_le (L9.out k hk) h1.1.size) (by rw [List.length_append,VO];omega) v1 h2 _ (EP y)
 have Tm:=hide C1;have Qp:=hide C2;clear C1 C2;go_enter func135,ntmps135;go_wp2;rw [<- hw0];have HW0:=hide hw0;clear hw0
 go_region_held3 (fun w'=>Z8 (More P w w0) w0 w'/\w'.cell? ⟨w.heap.size,0,none⟩=some (.int .i64 x)/\w'.cell? ⟨w.heap.size,1,none⟩=some (.int .i64 y))
  (first|exact qC hRk (Z8.drew _ _) ⟨Z8.refl _ _,d0,d1⟩|exact qC hRk (by assumption) (by assumption)|exact ⟨Z8.refl _ _,d0,d1⟩)
  (first|(go_at_call 96;((with_reducible refine Tm.out.mono ?_);rintro e w' ⟨v',rfl,k',r'⟩))|(go_at_call 96;((with_reducible refine (Qp.out _ _ (by assumption) (by assumption)).mono ?_);rintro e w' ⟨v',rfl,k',r'⟩)))
 all_goals go_wp2
 all_goals go_ret
 have hS:=(by assumption:Z8 (More P w w0) w0 w'/\w'.cell? ⟨w.heap.size,0,none⟩=some (.int .i64 x)/\w'.cell? ⟨w.heap.size,1,none⟩=some (.int .i64 y));refine ⟨v',rfl,HM.out _ hS.1,?_⟩;have r3:=r'.mono (R:=P) (fun k hk=>.inl hk);rw [List.append_assoc] at r3;exact r3
end
end
section
open Go.RowKit
theorem r9{w:World}{base:Nat}{bs:List Int}{v:Value}(h:w.ownsRow base 5 1 v bs.length (ZY bs)):RW w (XW base) v bs :=
 ⟨VH h (Nat.zero_le _),fun k hk hp=>by have:=ZP h hk;unfold XW at hp;omega⟩
theorem BS{w:World}{base base':Nat}{bs:List Int}{v:Value}(h:RW w (XW base) v bs)(hb:base'<=base):w.ownsRow base' 5 1 v bs.length (ZY bs) :=
 IG h.1 fun k hk=>by have:=h.2 k hk;unfold XW at this;omega
theorem Z8.on{P:Nat->Prop}{w w':World}{b o:Nat}{v:Value}(h:Z8 P w w')(hb:P b)(hc:w.cell? ⟨b,o,none⟩=some v):w'.cell? ⟨b,o,none⟩=some v:=(h.cell hb o).trans hc
theorem fA {R:Nat->Prop} {w0 wk w':World} {b c o1 o2 o3:Nat} {u v1 v2 v3:Value} (hb:R b) (hc:R c) (hk:Z8 R wk w')
 (h:Z8 R w0 wk/\wk.cell? ⟨b,6,none⟩=some u/\wk.cell? ⟨c,o1,none⟩=some v1/\wk.cell? ⟨c,o2,none⟩=some v2/\wk.cell? ⟨c,o3,none⟩=some v3) :
 Z8 R w0 w'/\w'.cell? ⟨b,6,none⟩=some u/\w'.cell? ⟨c,o1,none⟩=some v1/\w'.cell? ⟨c,o2,none⟩=some v2/\w'.cell? ⟨c,o3,none⟩=some v3 :=
 ⟨h.1.trans hk,hk.on hb h.2.1,hk.on hc h.2.2.1,hk.on hc h.2.2.2.1,hk.on hc h.2.2.2.2⟩
section
variable (op vs Z0:Int)(hrs:List Rg)(HA:Option Addr)(hc:Nat)(gs:List Gr)(GA:Option Addr)(gc:Nat)(ps:List (Int × Int))(PA:Option Addr)(pc:Nat)(qs:List ((Int × Int) × Int))(QA:Option Addr)(qc:Nat)(w:World)
variable (hh:Sl w w.heap.size HA (rgCells hrs))(hgc:Sl w w.heap.size GA (rgCells (gs.map (·.1))))(hgs:uh w w.heap.size gs)(hps:Sl w w.heap.size PA (Zc ps))(Qh:Sl w w.heap.size QA (Vs qs))(PW:∀ q∈qs,Uf q.2)
include hh hgc hgs hps Qh PW
theorem Na:Calls prog 92 #[.agg #[.int .i64 op,.int .i64 vs,.slice HA hrs.length hc,.int .i64 Z0,.slice GA gs.length gc,.slice PA ps.length pc,.slice QA qs.length qc]] w (Zr (ZG op vs hrs Z0 gs ps qs) w):=by
 have HH:=hide hh;clear hh;have HG:=hide hgc;clear hgc;have Qc:=hide hgs;clear hgs;have G7:=hide hps;clear hps;have HQS:=hide Qh;clear Qh;have HQU:=hide PW;clear PW;obtain ⟨w0,hw0⟩:=eE (w.alloc (.cells #[.int .i64 op,.int .i64 vs,.slice HA hrs.length hc,.int .i64 Z0,.slice GA gs.length gc,.slice PA ps.length pc,.slice QA qs.length qc] 73));have hb0:=bE hw0;have hz0:w0.heap.size=w.heap.size+1:=by rw [hw0];simp
 have B0:Z6 w0 w.heap.size 73 #[.int .i64 op,.int .i64 vs,.slice HA hrs.length hc,.int .i64 Z0,.slice GA gs.length gc,.slice PA ps.length pc,.slice QA qs.length qc]:=by rw [hw0];exact Z6.new _ _ _
 have HZ0:=hide hz0;clear hz0;have b00:=B0.q0 rfl;have b01:=B0.q1 rfl;have b02:=B0.q2 rfl;have b03:=B0.q3 rfl
 by_cases he:ZT op vs hrs Z0=0
 · obtain ⟨hv0,hv1,hrl,hcp,hcq⟩:=J5 he;have hf2:ZK op vs hrs Z0=(Zo op vs hrs Z0,0):=(by unfold ZK;rw [if_pos he]);have l7:=hide hf2;clear hf2;have HE:=hide he;clear he;obtain ⟨N,hN⟩:∃ N,Xu op vs=N:=⟨_,rfl⟩;obtain ⟨M,hM⟩:∃ M,WX op Z0=M:=⟨_,rfl⟩;obtain ⟨b1,b2,b3,g1,g2,g3⟩:∃ b1 b2 b3:Bool,((gs.length:Int) != (hrs.length:Int))=b1/\((ps.length:Int) != N)=b2/\((qs.length:Int) != M)=b3:=⟨_,_,_,rfl,rfl,rfl⟩;rw [hN] at hcp;rw [hM] at hcq;have HN:=hide hN;have HM:=hide hM;clear hN hM;go_enter func92,ntmps92;go_wp2_with fail;rw [<- hw0];have HW0:=hide hw0;clear hw0;have F:=Rw op vs Z0 hrs HA hc w0 ((HH.out.below hb0).more hb0.size);rw [l7.out] at F;refine F.mono ?_;clear F;rintro e w1 ⟨v,rfl,UZ,hb1⟩;have B1:=B0.step hb1;have b10:=B1.q0 rfl;have b11:=B1.q1 rfl;have b12:=B1.q2 rfl;have b13:=B1.q3 rfl;dsimp only at UZ;have hfl:=Hz op vs hrs Z0;generalize oZ:Zo op vs hrs Z0=Ny at UZ hfl;have L8:=hide oZ;clear oZ;go_wp2_with fail;have C:=M7 op vs Z0 w1 hv0 hv1 HA hrs.length hc;rw [HN.out,HM.out] at C;refine C.mono ?_;clear C;rintro e w2 ⟨rfl,hb2⟩;have B2:=B1.step hb2;have b24:=B2.q4 rfl;have b22:=B2.q2 rfl;have b25:=B2.q5 rfl;have b26:=B2.q6 rfl;have HB2:=Z9 (Z9 hb0 hb1) hb2;clear b00 b01 b02 b03 b10 b11 b12 b13;cases b1
   case true =>
    go_wp2;go_ret2;have hf:ZG op vs hrs Z0 gs ps qs=([],8):=(by unfold ZG;rw [if_neg (by simpa using HE.out),if_pos (.inl (by simp at g1;omega))]);rw [hf];exact ⟨_,rfl,World.ownsRow_nil _ _ _ _,HB2⟩
   case false =>
    have g1':gs.length=hrs.length:=(by simp at g1;omega);have G1:=hide g1';clear g1';cases b2
    case true =>
     go_wp2;go_ret2;have hf:ZG op vs hrs Z0 gs ps qs=([],8):=(by unfold ZG;rw [if_neg (by simpa using HE.out),HN.out,if_pos (.inr (.inl (by simpa using g2)))]);rw [hf];exact ⟨_,rfl,World.ownsRow_nil _ _ _ _,HB2⟩
    case false =>
     obtain rfl:N=(ps.length:Int):=(by simp at g2;omega);cases b3
     case true =>
      go_wp2;go_ret2;have hf:ZG op vs hrs Z0 gs ps qs=([],8):=(by unfold ZG;rw [if_neg (by simpa using HE.out),HM.out,if_pos (.inr (.inr (by simpa using g3)))]);rw [hf];exact ⟨_,rfl,World.ownsRow_nil _ _ _ _,HB2⟩
     case false =>
      obtain rfl:M=(qs.length:Int):=by simp at g3;omega
      have HF:Hid (ZG op vs hrs Z0 gs ps qs=if (gs.zip hrs).any VL=true then ([],8) else if (gs.zip hrs).any Wp=true then ([],2)
       else (Zo op vs hrs Z0++YQ gs++ps.flatMap Xx++qs.flatMap q24,0)):=by
       apply hide;unfold ZG;rw [if_neg (by simpa using HE.out),HN.out,HM.out,if_neg (by have:=G1.out;omega)]
      have zol:gs.length<=64:=(by have:=G1.out;omega);have HR2:=hide (r9 UZ);clear UZ;have hr2:RW w2 (XW w0.heap.size) v Ny:=HR2.out.step hb2;clear HR2;have HRW:=hide hr2;clear hr2;have oH:∀ k,k<w.heap.size->XW w0.heap.size k:=fun k hk=>by have:=HZ0.out;unfold XW;omega
      have Qr:XW w0.heap.size w.heap.size:=(by have:=HZ0.out;unfold XW;omega);have FM:∀ k,XW w0.heap.size k->k<w2.heap.size:=fun k hk=>by have:=hb1.size;have:=hb2.size;unfold XW at hk;omega
      have Oc:=hide oH;have Ls:=hide FM;clear oH FM;go_wp2
      go_loopw [8] (fun i wr=>∃ k:Nat,k<=gs.length/\i=.int .i64 k/\((gs.zip hrs).take k).any VL=false/\Z8 (XW w0.heap.size) w2 wr/\RW wr (XW w0.heap.size) v Ny)
       (fun i _=>gs.length - (intOf i).toNat)
      case atStart=>exact ⟨0,by omega,rfl,by simp,Z8.refl _ _,HRW.out⟩
      case round =>
       obtain ⟨k,hk,rfl,hsz,hkp,hrw⟩:=hrel;have Vu:=hide hsz;clear hsz;have zwf:=hide hrw;clear hrw HRW;have r2:=hkp.on Qr b22;have r4:=hkp.on Qr b24;have r5:=hkp.on Qr b25;have r6:=hkp.on Qr b26;have Un:=HB2.trans (hkp.below Oc.out)
       by_cases hlt:k<gs.length
       · obtain ⟨r,hr⟩:∃ r,gs[k]?=some r:=⟨_,List.getElem?_eq_getElem hlt⟩;obtain ⟨h,hh⟩:∃ h,hrs[k]?=some h:=⟨_,List.getElem?_eq_getElem (by have:=G1.out;omega)⟩;have Mj:(gs.zip hrs)[k]?=some (r,h):=(by rw [List.getElem?_zip_eq_some];exact ⟨hr,hh⟩);have hrm:(gs.map (·.1))[k]?=some r.1:=(by rw [List.getElem?_map,hr];rfl);obtain ⟨gb,zwt,rfl,hgb,c0,c1,c2⟩:=(HG.out.below Un).rg hrm;obtain ⟨Fa,hoff,rfl,mJ,d0,d1,d2⟩:=(HH.out.below Un).rg hh;have hlt':(k:Int)<(hrs.length:Int):=(by have:=G1.out;omega);have Oe:=hide (any_take_succ (gs.zip hrs) VL k (r,h) Mj);have uJ:=hide Mj;clear hr hh hrm Mj;obtain ⟨sb,hsb⟩:∃ sb,((r.1.n:Int) != ZN h.v)=sb:=⟨_,rfl⟩;go_wp2
         go_quiet ((go_at_call 49;exact Calls.quiet_of_same ((Xp _ _).mono fun _ _ ⟨a,b⟩=>⟨a,b.symm⟩)))
         cases sb
         case true =>
          go_wp2;go_ret2;rw [HF.out,if_pos (XY _ _ k _ uJ.out hsb)];exact ⟨_,rfl,World.ownsRow_nil _ _ _ _,below_drewN Un _⟩
         case false =>
          have hb2':((gs.zip hrs).take (k+1)).any VL=false:=(by rw [Oe.out,Vu.out];exact hsb);have mO:=hide hb2';clear hb2';go_wp2;go_roundw
          case rel=>exact ⟨k+1,by omega,by go_num,mO.out,⟨hkp.os,hkp.tape,hkp.output,hkp.size,hkp.block⟩,zwf.out⟩
          case measure=>simp [intOf];omega
       · have hk':k=gs.length:=(by omega);subst hk';have hsz':=Vu.out;rw [Tk] at hsz';have mo:=hide hsz';clear hsz' Vu;have hsm:=Dy mo.out G1.out;have gK:=hide hsm;clear hsm;have HG2:=hide g2;have HG3:=hide g3;clear g2 g3;have hpl:ps.length<=65:=(by omega);have vR:qs.length<=4096:=(by omega);have hgl:=SI gs (fun x hx=>by have h1:=Qc.out x hx;have h2:=gK.out x hx;have:=h1.1;omega);have zgm:Ny.length<=68:=by omega
         have hgk:∀ k,(YQ (gs.take k)).length<=65536:=fun k=>by
          have h1:=SI (gs.take k) (fun x hx=>by have h1:=Qc.out x (List.mem_of_mem_take hx);have h2:=gK.out x (List.mem_of_mem_take hx);have:=h1.1;omega);rw [List.length_take] at h1;omega
         have HGK:=hide hgk;clear hgk;go_wp2;clear r2 r4 r5 r6
         go_loopw [4,9] (fun u i wr=>∃ k:Nat,k<=gs.length/\i=.int .i64 k/\((gs.zip hrs).take k).any Wp=false/\Z8 (XW w0.heap.size) w2 wr/\RW wr (XW w0.heap.size) u (Ny++YQ (gs.take k)))
          (fun _ i _=>gs.length - (intOf i).toNat)
         case atStart=>exact ⟨0,by omega,rfl,by simp,hkp,by simpa [YQ] using zwf.out⟩
         case round =>
          clear zwf hkp Un hk;obtain ⟨k,hk,rfl,hkd,hkp,hrw⟩:=hrel;have HKD:=hide hkd;clear hkd;have CQ:=hide hrw;clear hrw;have r2:=hkp.on Qr b22;have r4:=hkp.on Qr b24;have r5:=hkp.on Qr b25;have r6:=hkp.on Qr b26;have Un:=HB2.trans (hkp.below Oc.out)
          by_cases hlt:k<gs.length
          · obtain ⟨r,hr⟩:∃ r,gs[k]?=some r:=⟨_,List.getElem?_eq_getElem hlt⟩;obtain ⟨h,hh⟩:∃ h,hrs[k]?=some h:=⟨_,List.getElem?_eq_getElem (by have:=G1.out;omega)⟩;have Mj:(gs.zip hrs)[k]?=some (r,h):=(by rw [List.getElem?_zip_eq_some];exact ⟨hr,hh⟩);have hrm:(gs.map (·.1))[k]?=some r.1:=(by rw [List.getElem?_map,hr];rfl);obtain ⟨gb,zwt,rfl,hgb,e0,e1,e2⟩:=HG.out.rg hrm;obtain ⟨Fa,hoff,rfl,mJ,d0,d1,d2⟩:=(HH.out.below Un).rg hh;have c0:=(Un.cell (p:=⟨gb,_,none⟩) hgb).trans e0;have c1:=(Un.cell (p:=⟨gb,_,none⟩) hgb).trans e1;have HE2:=hide e2;clear e0 e1 e2;have hlt':(k:Int)<(hrs.length:Int):=(by have:=G1.out;omega);have G8:=hide (any_take_succ (gs.zip hrs) Wp k (r,h) Mj);have uJ:=hide Mj;have hrg:=Qc.out r (List.mem_of_getElem? hr);have zkl:=gK.out r (List.mem_of_getElem? hr);have mZ:=hide hrg;clear hrg;have HGB:=hide (ML gs k r hr);clear hr hh hrm Mj
            by_cases hd:r.1.d=h.d
            case neg =>
             have hkb:Wp (r,h)=true:=(by simp [Wp,hd]);have HKB:=hide hkb;clear hkb;have hd2:decide (r.1.d=h.d)=false:=(by simpa using hd);go_wp2
             go_quiet (fail)
             go_wp2;go_ret2;rw [HF.out,if_neg (by rw [mo.out];simp),if_pos (XY _ _ k _ uJ.out HKB.out)];exact ⟨_,rfl,World.ownsRow_nil _ _ _ _,below_drewN Un _⟩
            case pos =>
             have hd2:decide (r.1.d=h.d)=true:=by simpa using hd
             by_cases hv:r.1.v=h.v
             case neg =>
              have hkb:Wp (r,h)=true:=(by simp [Wp,hv]);have HKB:=hide hkb;clear hkb;go_wp2
              go_quiet (fail)
              go_wp2;go_ret2;rw [HF.out,if_neg (by rw [mo.out];simp),if_pos (XY _ _ k _ uJ.out HKB.out)];exact ⟨_,rfl,World.ownsRow_nil _ _ _ _,below_drewN Un _⟩
             case pos =>
              have HKB:Hid (((gs.zip hrs).take (k+1)).any Wp=false):=(by apply hide;rw [G8.out,HKD.out];simp [Wp,hd,hv]);go_wp2
              go_quiet (fail)
              have uD:=hide hkp;have HRR:=hide CQ.out;have KD:∀ m,Z8 (XW w0.heap.size) w2 (wr.drewN m):=fun m=>⟨hkp.os,hkp.tape,hkp.output,hkp.size,hkp.block⟩;have RD:∀ m,RW (wr.drewN m) (XW w0.heap.size) u4 (Ny++YQ (gs.take k)):=fun m=>CQ.out;have zmt:=hide KD;have znc:=hide RD;clear KD RD hd hd2 hv c0 c1 d0 d1 d2 r2 r4 r5 r6 Un;go_wp2
              go_loopw [4,10] (fun u j wr=>∃ t:Nat,t<=r.1.n/\j=.int .i64 t/\Z8 (XW w0.heap.size) w2 wr/\RW wr (XW w0.heap.size) u (Ny++YQ (gs.take k)++(r.2.take t).flatMap Xx))
               (fun _ j _=>r.1.n - (intOf j).toNat)
              case atStart=>exact ⟨0,by omega,rfl,zmt.out _,by simpa using znc.out _⟩
              case round =>
               clear hkp CQ zmt znc uD HRR;obtain ⟨t,ht,rfl,hkp,hrw⟩:=hrel;have Un:=HB2.trans (hkp.below Oc.out);have r4:=hkp.on Qr b24;have c2:=(Un.cell (p:=⟨gb,_,none⟩) hgb).trans HE2.out
               by_cases htl:t<r.1.n
               · obtain ⟨p,hp⟩:∃ p,r.2[t]?=some p:=⟨_,List.getElem?_eq_getElem (by have:=mZ.out.1;omega)⟩;obtain ⟨pb,zle,hA,hpb,p0,p1⟩:=(mZ.out.2.below Un).pt hp;rw [hA] at c2;have HT:=hide (Yn Xx r.2 t p hp);have zoi:=WI Xx 16 Xl (r.2.take t);have hln:(Ny++YQ (gs.take k)++(r.2.take t).flatMap Xx).length<=200000:=by
                  rw [List.length_append,List.length_append,zoi,List.length_take];have:=HGK.out k;omega
                 have HAA:=hide hA;clear hA hp zoi;go_wp2_with fail;refine (P8 (XW w0.heap.size) _ wr (fun j hj=>Nat.lt_of_lt_of_le (Ls.out j hj) hkp.size) (by omega) _ hrw (by omega) p.1 p.2).mono ?_;rintro e w5 ⟨v5,rfl,k5,s5⟩;clear r4 c2 p0 p1;go_wp2;go_roundw
                 case rel=>exact ⟨t+1,by omega,by go_num,hkp.trans k5,by rw [HT.out,<- List.append_assoc];exact s5⟩
                 case measure=>simp [intOf];omega
               · have ht':t=r.1.n:=(by omega);have htk:r.2.take t=r.2:=List.take_of_length_le (by have:=mZ.out.1;omega);rw [htk] at hrw;have zjd:=hide hrw;clear hrw htk ht';go_wp2;go_roundw
                 case rel=>exact ⟨k+1,by omega,by go_num,HKB.out,hkp,by rw [HGB.out,<- List.append_assoc];exact zjd.out⟩
                 case measure=>simp [intOf];omega
          · have hk':k=gs.length:=(by omega);subst hk';have zxb:=HKD.out;rw [Tk] at zxb;have HKS:=hide zxb;clear zxb HKD;have hrw:=CQ.out;rw [List.take_length] at hrw;have Pw:Hid (ZG op vs hrs Z0 gs ps qs=(Zo op vs hrs Z0++YQ gs++ps.flatMap Xx++qs.flatMap q24,0)):=by
             apply hide;rw [HF.out,if_neg (by rw [mo.out];simp),if_neg (by rw [HKS.out];simp)]
            have zhb:(Ny++YQ gs).length<=70000:=(by rw [List.length_append];omega);have HR4:=hide hrw;clear hrw CQ;go_wp2;clear r2 r4 r5 r6
            go_loopw [4,11] (fun u i wr=>∃ t:Nat,t<=ps.length/\i=.int .i64 t/\Z8 (XW w0.heap.size) w2 wr/\RW wr (XW w0.heap.size) u (Ny++YQ gs++(ps.take t).flatMap Xx))
             (fun _ i _=>ps.length - (intOf i).toNat)
            case atStart=>exact ⟨0,by omega,rfl,hkp,by simpa using HR4.out⟩
            case round =>
             clear hkp HR4 Un hk;obtain ⟨t,ht,rfl,hkp,hrw⟩:=hrel;have Un:=HB2.trans (hkp.below Oc.out);have r5:=hkp.on Qr b25
             by_cases htl:t<ps.length
             · obtain ⟨p,hp⟩:∃ p,ps[t]?=some p:=⟨_,List.getElem?_eq_getElem htl⟩;obtain ⟨pb,zle,rfl,hpb,p0,p1⟩:=(G7.out.below Un).pt hp;have HT:=hide (Yn Xx ps t p hp);have hln:(Ny++YQ gs++(ps.take t).flatMap Xx).length<=200000:=by
                rw [List.length_append,WI Xx 16 Xl,List.length_take];omega
               clear hp;go_wp2_with fail;refine (P8 (XW w0.heap.size) _ wr (fun j hj=>Nat.lt_of_lt_of_le (Ls.out j hj) hkp.size) (by omega) _ hrw (by omega) p.1 p.2).mono ?_;rintro e w5 ⟨v5,rfl,k5,s5⟩;clear r5 p0 p1;go_wp2;go_roundw
               case rel=>exact ⟨t+1,by omega,by go_num,hkp.trans k5,by rw [HT.out,<- List.append_assoc];exact s5⟩
               case measure=>simp [intOf];omega
             · have ht':t=ps.length:=(by omega);subst ht';rw [List.take_length] at hrw;have zhc:(Ny++YQ gs++ps.flatMap Xx).length<=80000:=(by rw [List.length_append,WI Xx 16 Xl];omega);have HR6:=hide hrw;clear hrw;go_wp2;clear r5
               go_loopw [4,12] (fun u i wr=>∃ t:Nat,t<=qs.length/\i=.int .i64 t/\Z8 (XW w0.heap.size) w2 wr/\RW wr (XW w0.heap.size) u (Ny++YQ gs++ps.flatMap Xx++(qs.take t).flatMap q24))
                (fun _ i _=>qs.length - (intOf i).toNat)
               case atStart=>exact ⟨0,by omega,rfl,hkp,by simpa using HR6.out⟩
               case round =>
                clear hkp HR6 Un ht;obtain ⟨t,ht,rfl,hkp,hrw⟩:=hrel;have Un:=HB2.trans (hkp.below Oc.out);have r6:=hkp.on Qr b26
                by_cases htl:t<qs.length
                · obtain ⟨q,hq⟩:∃ q,qs[t]?=some q:=⟨_,List.getElem?_eq_getElem htl⟩;obtain ⟨qb,Ml,rfl,Aq,q0,q1,q2⟩:=(HQS.out.below Un).qu hq;have hqU:=HQU.out q (List.mem_of_getElem? hq);have HT:=hide (Yn q24 qs t q hq);have hln:(Ny++YQ gs++ps.flatMap Xx++(qs.take t).flatMap q24).length<=200000:=by
                   rw [List.length_append,WI q24 24 KR,List.length_take];omega
                  have tX:=Oc.out qb Aq;have HQ:=hide hqU;generalize hcs:Ny++YQ gs++ps.flatMap Xx++(qs.take t).flatMap q24=cs at hrw hln;have uz:=hide hcs;have RY:∀ k,XW w0.heap.size k->k<wr.heap.size:=fun k hk=>Nat.lt_of_lt_of_le (Ls.out k hk) hkp.size;have C1:=P8 (XW w0.heap.size) cs wr.drew RY (by omega) u4 hrw (by omega) q.1.1 q.1.2
                  have C2:∀ wk v1,(Z8 (XW w0.heap.size) wr wk/\wk.cell? ⟨w.heap.size,6,none⟩=some (.slice (some ⟨qb,Ml,none⟩) qs.length qc)/\wk.cell? ⟨qb,Ml+t*3,none⟩=some (.int .i64 q.1.1)/\wk.cell? ⟨qb,Ml+t*3+1,none⟩=some (.int .i64 q.1.2)/\wk.cell? ⟨qb,Ml+t*3+2,none⟩=some (.int .u64 q.2))->RW wk (XW w0.heap.size) v1 (cs++Xx (q.1.1,q.1.2)) ->
                   Calls prog 96 #[v1,.int .u64 q.2] wk (Nv (XW w0.heap.size) wk (cs++Xx (q.1.1,q.1.2)++XU q.2)) :=
                   fun wk v1 h1 h2=>TL (XW w0.heap.size) _ wk (fun k hk=>Nat.lt_of_lt_of_le (RY k hk) h1.1.size) (by rw [List.length_append,Xl];omega) v1 h2 _ HQ.out
                  have Tm:=hide C1;have Qp:=hide C2;clear C1 C2 hq hcs hqU RY;go_wp2
                  go_region_held3 (fun w'=>Z8 (XW w0.heap.size) wr w'/\w'.cell? ⟨w.heap.size,6,none⟩=some (.slice (some ⟨qb,Ml,none⟩) qs.length qc)/\w'.cell? ⟨qb,Ml+t*3,none⟩=some (.int .i64 q.1.1)/\w'.cell? ⟨qb,Ml+t*3+1,none⟩=some (.int .i64 q.1.2)/\w'.cell? ⟨qb,Ml+t*3+2,none⟩=some (.int .u64 q.2))
                   (first|exact fA Qr tX (Z8.drew _ _) ⟨Z8.refl _ _,r6,q0,q1,q2⟩|exact fA Qr tX (by assumption) (by assumption)|exact ⟨Z8.refl _ _,r6,q0,q1,q2⟩)
                   (first|(go_at_call 135;((with_reducible refine Tm.out.mono ?_);rintro e w' ⟨v',rfl,k',r'⟩))|(go_at_call 96;((with_reducible refine (Qp.out _ _ (by assumption) (by assumption)).mono ?_);rintro e w' ⟨v',rfl,k',r'⟩)))
                  have hS:=(by assumption:Z8 (XW w0.heap.size) wr w'/\w'.cell? ⟨w.heap.size,6,none⟩=some (.slice (some ⟨qb,Ml,none⟩) qs.length qc)/\w'.cell? ⟨qb,Ml+t*3,none⟩=some (.int .i64 q.1.1)/\w'.cell? ⟨qb,Ml+t*3+1,none⟩=some (.int .i64 q.1.2)/\w'.cell? ⟨qb,Ml+t*3+2,none⟩=some (.int .u64 q.2)).1;have r3:RW w' (XW w0.heap.size) v' (cs++q24 q):=by
                   rw [List.append_assoc] at r';exact r'
                  clear r6 q0 q1 q2;go_wp2;go_roundw
                  case rel=>exact ⟨t+1,by omega,by go_num,hkp.trans hS,by rw [HT.out,<- List.append_assoc,uz.out];exact r3⟩
                  case measure=>simp [intOf];omega
                · have ht':t=qs.length:=(by omega);subst ht';rw [List.take_length] at hrw;generalize FN:Ny++YQ gs++ps.flatMap Xx++qs.flatMap q24=bF at hrw;have mP:=hide FN;clear FN;have Ry:=BS (base':=w.heap.size) hrw (by have:=HZ0.out;omega);obtain ⟨RA,rQ,rfl,_⟩:=ZJ Ry;clear r6;go_wp2;go_ret2;rw [Pw.out,L8.out,mP.out];exact ⟨.slice RA _ rQ,rfl,Ry,Un⟩
 · have hf:ZG op vs hrs Z0 gs ps qs=([],ZT op vs hrs Z0):=(by unfold ZG;rw [if_pos he]);have hf2:ZK op vs hrs Z0=([],ZT op vs hrs Z0):=(by unfold ZK;rw [if_neg he]);rw [hf];have he':(ZT op vs hrs Z0 != 0)=true:=(by rw [bne_iff_ne];exact he);have l7:=hide hf2;clear hf2 hf;have HE:=hide he;clear he;go_enter func92,ntmps92;go_wp2_with fail;rw [<- hw0];have HW0:=hide hw0;clear hw0;have F:=Rw op vs Z0 hrs HA hc w0 ((HH.out.below hb0).more hb0.size);rw [l7.out] at F;refine F.mono ?_;clear F;rintro e w1 ⟨v,rfl,hv1,hb1⟩;go_wp2;go_ret2;exact ⟨_,rfl,World.ownsRow_nil _ _ _ _,Z9 hb0 hb1⟩
end
end
end Go.Proofs.YtfljlmleiggmjaaGreatDoor