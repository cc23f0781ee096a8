/- RefWord RefEncode -/
import Derived.Deep.RegionHeld3
import Derived.Test.YthnenedoblncjaaGreatDoorPkA05
import Derived.Test.YthnenedoblncjaaGreatDoorPkA11
set_option maxRecDepth 1000000
set_option maxHeartbeats 8000000
namespace Go.Proofs.YthnenedoblncjaaGreatDoor
open Go.Proofs.Tryz
section
open Go.RowKit
def RW(w:World)(P:Nat->Prop)(v:Value)(bs:List Int):Prop :=
 w.ownsRow 0 5 1 v bs.length (ZY bs)/\∀ k,v.ownBlock=some k->¬ P k
theorem RW.step{w w':World}{P:Nat->Prop}{v:Value}{bs:List Int}(h:RW w P v bs)(hb:Below w.heap.size w w'):RW w' P v bs:=⟨ZH h.1 hb,h.2⟩
theorem RW.mono{w:World}{P R:Nat->Prop}{v:Value}{bs:List Int}(h:RW w P v bs)(hR:∀ k,R k->P k):RW w R v bs:=⟨h.1,fun k hk hr=>h.2 k hk (hR k hr)⟩
theorem RW.more{w w':World}{P:Nat->Prop}{v:Value}{bs:List Int}(h:RW w P v bs)(hb:Below w.heap.size w w'):RW w' (More P w w') v bs:=by
 refine ⟨ZH h.1 hb,fun k hk hp=>?_⟩;have:=TN h.1 hk;rcases hp with hp|hp
 · exact h.2 k hk hp
 · omega
theorem Nf {wr wa w1:World} {P:Nat->Prop} {g' cap n:Nat} {v:Value} {bs news:List Int} {xs:List Value} (hP:∀ k,P k->k<wr.heap.size) (h:RW wr P v bs) (hb:Below wr.heap.size wr wa)
 (YN:w1.ownsRow 0 5 1 (.slice (some ⟨g',0,none⟩) n cap) n xs) (hn:n=(bs++news).length) (hx:xs=ZY (bs++news)) (ZQ:wa.grownBy w1 v.ownBlock) (hat:v.ownBlock=some g'\/g'=wa.heap.size) :
 RW w1 P (.slice (some ⟨g',0,none⟩) n cap) (bs++news)/\Z8 P wr w1:=by
 subst hn hx;have dx:¬ P g':=by
  rcases hat with h1|h1
  · exact h.2 g' h1
  · intro hp;have:=hP g' hp;have:=hb.size;omega
 refine ⟨⟨YN,fun k hk=>by
  have:g'=k:=by simpa [Value.ownBlock] using hk
  subst this;exact dx⟩,ZQ.os.trans hb.os,ZQ.tape.trans hb.tape,ZQ.output.trans hb.output,Nat.le_trans hb.size ZQ.size,fun k hk=>?_⟩
 have hkl:=hP k hk;exact (ZQ.block k (Nat.lt_of_lt_of_le hkl hb.size) (fun e=>h.2 k e.symm hk)).trans (hb.block k hkl)
def OM(P:Nat->Prop)(w:World)(bs:List Int)(e:Ending)(w':World):Prop:=∃ v',e=.returned v'/\Z8 P w w'/\RW w' P v' bs
section
variable (P:Nat->Prop)(bs:List Int)(w:World)
variable (hP:∀ k,P k->k<w.heap.size)(hlen:bs.length<=1000000)
include hP hlen
theorem Uq(v:Value)(hv:RW w P v bs)(x:Int)(hx:Vo x):Calls prog 59 #[v,.int .u64 x] w (OM P w (bs++YH x)):=by
 have HP:=hide hP;clear hP;go_enter func59,ntmps59;go_wp2
 go_loopw [0,1,5] (fun u y i wr=>∃ (k:Nat) (z:Int),k<=8/\i=.int .i64 k/\y=.int .u64 z/\z=x / 256 ^ k/\Z8 P w wr/\RW wr P u (bs++(YH x).take k))
  (fun _ _ i _=>8 - (intOf i).toNat)
 case atStart=>exact ⟨0,x,by omega,rfl,rfl,by simp,Z8.refl _ _,by simpa using hv⟩
 case round =>
  obtain ⟨k,z,hk,rfl,rfl,hz,hbr,hrw⟩:=hrel;have hzU:Vo z:=by rw [hz];exact hx.div k
  have hz0:=hzU.nonneg;have HZ:=hide hz;clear hz
  by_cases hlt:k<8
  · obtain ⟨i0,hi,hi0,hi1,hi2⟩:=info_parts Xt;have hln:(bs++List.take k (YH x)).length<=1000008:=(by rw [List.length_append,List.length_take,Wo];omega);have hsn:∀ cs,cs=bs++List.take k (YH x)->bs++List.take (k+1) (YH x)=cs++[z % 256]:=fun cs h=>by rw [h,MN x k hlt,List.append_assoc,HZ.out]
    generalize hcs:bs++List.take k (YH x)=cs at hrw hln hsn;have HS:=hide (hsn cs rfl);clear hsn hcs;have zpe:=hbr.size;have zqa:=hrw.1;have qN:=hide hbr;have HRW:=hide hrw;clear hbr hrw;go_wp2_with (at_builtin;refine wpList_append_lies _ rfl (.tmp 10) (.tmp 14) 49 rfl 0 5 i0 (.int .u8 0) 1 1 underlying49 hi hi0 hi1 hi2 rfl (by decide) _ _ _ rfl (ZH zqa (bA)) ⟨wr.heap.size,0,none⟩ 1 1 [.int .u8 (z % 256)] rfl rfl (ZF (Z6.new _ _ _)) (by simp [Value.oneCell']) (by omega) (by unfold maxLen;omega) (by omega) (by omega) (wr.heap.size+1) (by simp) ?_;intro g' cap w1 YN ZQ hat hlt');obtain ⟨p1,p2⟩:=Nf (P:=P) (fun k hk=>Nat.lt_of_lt_of_le (HP.out k hk) zpe) HRW.out (bA) YN (news:=[z % 256]) (by simp) (by rw [Yp];rfl) ZQ (by have hat':u0.ownBlock=some g'\/g'=wr.heap.size+1:=hat;simpa using hat');go_roundw
    case rel=>exact ⟨k+1,z / 256,by omega,by go_num,by rw [hzU.quo],by rw [HZ.out,NS],qN.out.trans p2,by rw [HS.out];exact p1⟩
    case measure=>simp [intOf];omega
  · have hk':k=8:=(by omega);subst hk';go_wp2;go_ret;exact ⟨_,rfl,hbr,hrw⟩
theorem QU(v:Value)(hv:RW w P v bs)(znl:bs.length<=900000)(x y:Int):Calls prog 58 #[v,.agg #[.int .i64 x,.int .i64 y]] w (OM P w (bs++XW (x,y))):=by
 obtain ⟨w0,hw0⟩:=eE (w.alloc (.cells #[.int .i64 x,.int .i64 y] 41));have hb:=bE hw0;have hz:w0.heap.size=w.heap.size+1:=by rw [hw0];simp
 have B0:Z6 w0 w.heap.size 41 #[.int .i64 x,.int .i64 y]:=by rw [hw0];exact Z6.new _ _ _
 have hP1:=Yw hP hb;have h0:=hv.more hb;have hm:∀ w1,Z8 (More P w w0) w0 w1->Z8 P w w1:=fun w1=>Z8.more hb hP;have hRk:More P w w0 w.heap.size:=.inr ⟨Nat.le_refl _,by omega⟩;have HM:=hide hm;have HZ:=hide hz;clear hm hz hP;have Nj:=hide hP1;clear hP1;have d0:=B0.q0 rfl;have d1:=B0.q1 rfl;have C1:=Uq (More P w w0) bs w0.drew Nj.out (by omega) v h0 (IntKind.u64.wrap x) (GN x)
 have C2:∀ wk v1,(Z8 (More P w w0) w0 wk/\wk.cell? ⟨w.heap.size,0,none⟩=some (.int .i64 x)/\wk.cell? ⟨w.heap.size,1,none⟩=some (.int .i64 y))->RW wk (More P w w0) v1 (bs++YH (IntKind.u64.wrap x)) ->
  Calls prog 59 #[v1,.int .u64 (IntKind.u64.wrap y)] wk (OM (More P w w0) wk (bs++YH (IntKind.u64.wrap x)++YH (IntKind.u64.wrap y))) :=
  fun wk v1 h1 h2=>Uq (More P w w0) _ wk (fun k hk=>Nat.lt_of_lt_of_le (Nj.out k hk) h1.1.size) (by rw [List.length_append,Wo];omega) v1 h2 _ (GN y)
 have Ru:=hide C1;have OD:=hide C2;clear C1 C2;go_enter func58,ntmps58;go_wp2;rw [<- hw0];have HW0:=hide hw0;clear hw0
 go_region_held3 (fun w'=>Z8 (More P w w0) w0 w'/\w'.cell? ⟨w.heap.size,0,none⟩=some (.int .i64 x)/\w'.cell? ⟨w.heap.size,1,none⟩=some (.int .i64 y))
  (first|exact uQ hRk (Z8.drew _ _) ⟨Z8.refl _ _,d0,d1⟩|exact uQ hRk (by assumption) (by assumption)|exact ⟨Z8.refl _ _,d0,d1⟩)
  (first|(go_at_call 59;((with_reducible refine Ru.out.mono ?_);rintro e w' ⟨v',rfl,k',r'⟩))|(go_at_call 59;((with_reducible refine (OD.out _ _ (by assumption) (by assumption)).mono ?_);rintro e w' ⟨v',rfl,k',r'⟩)))
 all_goals go_wp2
 all_goals go_ret
 have hS:=(by assumption:Z8 (More P w w0) w0 w'/\w'.cell? ⟨w.heap.size,0,none⟩=some (.int .i64 x)/\w'.cell? ⟨w.heap.size,1,none⟩=some (.int .i64 y));refine ⟨v',rfl,HM.out _ hS.1,?_⟩;have r3:=r'.mono (R:=P) (fun k hk=>.inl hk);rw [List.append_assoc] at r3;exact r3
end
end
section
open Go.RowKit
theorem vZ{w:World}{base:Nat}{bs:List Int}{v:Value}(h:w.ownsRow base 5 1 v bs.length (ZY bs)):RW w (Yn base) v bs :=
 ⟨Wh h (Nat.zero_le _),fun k hk hp=>by have:=ZG h hk;unfold Yn at hp;omega⟩
theorem DX{w:World}{base base':Nat}{bs:List Int}{v:Value}(h:RW w (Yn base) v bs)(hb:base'<=base):w.ownsRow base' 5 1 v bs.length (ZY bs) :=
 J7 h.1 fun k hk=>by have:=h.2 k hk;unfold Yn at this;omega
theorem Z8.on{P:Nat->Prop}{w w':World}{b o:Nat}{v:Value}(h:Z8 P w w')(hb:P b)(hc:w.cell? ⟨b,o,none⟩=some v):w'.cell? ⟨b,o,none⟩=some v:=(h.cell hb o).trans hc
theorem kr {R:Nat->Prop} {w0 wk w':World} {b c o1 o2 o3:Nat} {u v1 v2 v3:Value} (hb:R b) (hc:R c) (hk:Z8 R wk w')
 (h:Z8 R w0 wk/\wk.cell? ⟨b,6,none⟩=some u/\wk.cell? ⟨c,o1,none⟩=some v1/\wk.cell? ⟨c,o2,none⟩=some v2/\wk.cell? ⟨c,o3,none⟩=some v3) :
 Z8 R w0 w'/\w'.cell? ⟨b,6,none⟩=some u/\w'.cell? ⟨c,o1,none⟩=some v1/\w'.cell? ⟨c,o2,none⟩=some v2/\w'.cell? ⟨c,o3,none⟩=some v3 :=
 ⟨h.1.trans hk,hk.on hb h.2.1,hk.on hc h.2.2.1,hk.on hc h.2.2.2.1,hk.on hc h.2.2.2.2⟩
section
variable (op vs Z0:Int)(hrs:List Rg)(HA:Option Addr)(hc:Nat)(gs:List Gr)(GA:Option Addr)(gc:Nat)(ps:List (Int × Int))(PA:Option Addr)(pc:Nat)(qs:List ((Int × Int) × Int))(QA:Option Addr)(qc:Nat)(w:World)
variable (hh:Sl w w.heap.size HA (rgCells hrs))(hgc:Sl w w.heap.size GA (rgCells (gs.map (·.1))))(hgs:Ey w w.heap.size gs)(hps:Sl w w.heap.size PA (Zg ps))(RL:Sl w w.heap.size QA (Wt qs))(Ro:∀ q∈qs,Vo q.2)
include hh hgc hgs hps RL Ro
theorem Ov:Calls prog 24 #[.agg #[.int .i64 op,.int .i64 vs,.slice HA hrs.length hc,.int .i64 Z0,.slice GA gs.length gc,.slice PA ps.length pc,.slice QA qs.length qc]] w (Zy (ZK op vs hrs Z0 gs ps qs) w):=by
 have HH:=hide hh;clear hh;have HG:=hide hgc;clear hgc;have QY:=hide hgs;clear hgs;have Jv:=hide hps;clear hps;have aL:=hide RL;clear RL;have HQU:=hide Ro;clear Ro;obtain ⟨w0,hw0⟩:=eE (w.alloc (.cells #[.int .i64 op,.int .i64 vs,.slice HA hrs.length hc,.int .i64 Z0,.slice GA gs.length gc,.slice PA ps.length pc,.slice QA qs.length qc] 55));have hb0:=bE hw0;have hz0:w0.heap.size=w.heap.size+1:=by rw [hw0];simp
 have B0:Z6 w0 w.heap.size 55 #[.int .i64 op,.int .i64 vs,.slice HA hrs.length hc,.int .i64 Z0,.slice GA gs.length gc,.slice PA ps.length pc,.slice QA qs.length qc]:=by rw [hw0];exact Z6.new _ _ _
 have HZ0:=hide hz0;clear hz0;have b00:=B0.q0 rfl;have b01:=B0.q1 rfl;have b02:=B0.q2 rfl;have b03:=B0.q3 rfl
 by_cases he:ZT op vs hrs Z0=0
 · obtain ⟨hv0,hv1,hrl,hcp,hcq⟩:=Lj he;have hf2:ZP op vs hrs Z0=(Zx op vs hrs Z0,0):=(by unfold ZP;rw [if_pos he]);have ql:=hide hf2;clear hf2;have HE:=hide he;clear he;obtain ⟨N,hN⟩:∃ N,XT op vs=N:=⟨_,rfl⟩;obtain ⟨M,hM⟩:∃ M,WU op Z0=M:=⟨_,rfl⟩;obtain ⟨b1,b2,b3,g1,g2,g3⟩:∃ b1 b2 b3:Bool,((gs.length:Int) != (hrs.length:Int))=b1/\((ps.length:Int) != N)=b2/\((qs.length:Int) != M)=b3:=⟨_,_,_,rfl,rfl,rfl⟩;rw [hN] at hcp;rw [hM] at hcq;have HN:=hide hN;have HM:=hide hM;clear hN hM;go_enter func24,ntmps24;go_wp2_with fail;rw [<- hw0];have HW0:=hide hw0;clear hw0;have F:=SL op vs Z0 hrs HA hc w0 ((HH.out.below hb0).more hb0.size);rw [ql.out] at F;refine F.mono ?_;clear F;rintro e w1 ⟨v,rfl,Vn,hb1⟩;have B1:=B0.step hb1;have b10:=B1.q0 rfl;have b11:=B1.q1 rfl;have b12:=B1.q2 rfl;have b13:=B1.q3 rfl;dsimp only at Vn;have hfl:=JI op vs hrs Z0;generalize tq:Zx op vs hrs Z0=OP at Vn hfl;have Ju:=hide tq;clear tq;go_wp2_with fail;have C:=Oo op vs Z0 w1 hv0 hv1 HA hrs.length hc;rw [HN.out,HM.out] at C;refine C.mono ?_;clear C;rintro e w2 ⟨rfl,hb2⟩;have B2:=B1.step hb2;have b24:=B2.q4 rfl;have b22:=B2.q2 rfl;have b25:=B2.q5 rfl;have b26:=B2.q6 rfl;have HB2:=Z9 (Z9 hb0 hb1) hb2;clear b00 b01 b02 b03 b10 b11 b12 b13;cases b1
   case true =>
    go_wp2;go_ret2;have hf:ZK op vs hrs Z0 gs ps qs=([],8):=(by unfold ZK;rw [if_neg (by simpa using HE.out),if_pos (.inl (by simp at g1;omega))]);rw [hf];exact ⟨_,rfl,World.ownsRow_nil _ _ _ _,HB2⟩
   case false =>
    have g1':gs.length=hrs.length:=(by simp at g1;omega);have G1:=hide g1';clear g1';cases b2
    case true =>
     go_wp2;go_ret2;have hf:ZK op vs hrs Z0 gs ps qs=([],8):=(by unfold ZK;rw [if_neg (by simpa using HE.out),HN.out,if_pos (.inr (.inl (by simpa using g2)))]);rw [hf];exact ⟨_,rfl,World.ownsRow_nil _ _ _ _,HB2⟩
    case false =>
     obtain rfl:N=(ps.length:Int):=(by simp at g2;omega);cases b3
     case true =>
      go_wp2;go_ret2;have hf:ZK op vs hrs Z0 gs ps qs=([],8):=(by unfold ZK;rw [if_neg (by simpa using HE.out),HM.out,if_pos (.inr (.inr (by simpa using g3)))]);rw [hf];exact ⟨_,rfl,World.ownsRow_nil _ _ _ _,HB2⟩
     case false =>
      obtain rfl:M=(qs.length:Int):=by simp at g3;omega
      have HF:Hid (ZK op vs hrs Z0 gs ps qs=if (gs.zip hrs).any Vz=true then ([],8) else if (gs.zip hrs).any Wy=true then ([],2)
       else (Zx op vs hrs Z0++Y4 gs++ps.flatMap XW++qs.flatMap q24,0)):=by
       apply hide;unfold ZK;rw [if_neg (by simpa using HE.out),HN.out,HM.out,if_neg (by have:=G1.out;omega)]
      have ztb:gs.length<=64:=(by have:=G1.out;omega);have HR2:=hide (vZ Vn);clear Vn;have hr2:RW w2 (Yn w0.heap.size) v OP:=HR2.out.step hb2;clear HR2;have HRW:=hide hr2;clear hr2;have sN:∀ k,k<w.heap.size->Yn w0.heap.size k:=fun k hk=>by have:=HZ0.out;unfold Yn;omega
      have Rm:Yn w0.heap.size w.heap.size:=(by have:=HZ0.out;unfold Yn;omega);have Ie:∀ k,Yn w0.heap.size k->k<w2.heap.size:=fun k hk=>by have:=hb1.size;have:=hb2.size;unfold Yn at hk;omega
      have Rv:=hide sN;have G8:=hide Ie;clear sN Ie;go_wp2
      go_loopw [8] (fun i wr=>∃ k:Nat,k<=gs.length/\i=.int .i64 k/\((gs.zip hrs).take k).any Vz=false/\Z8 (Yn w0.heap.size) w2 wr/\RW wr (Yn w0.heap.size) v OP)
       (fun i _=>gs.length - (intOf i).toNat)
      case atStart=>exact ⟨0,by omega,rfl,by simp,Z8.refl _ _,HRW.out⟩
      case round =>
       obtain ⟨k,hk,rfl,hsz,hkp,hrw⟩:=hrel;have Va:=hide hsz;clear hsz;have aN:=hide hrw;clear hrw HRW;have r2:=hkp.on Rm b22;have r4:=hkp.on Rm b24;have r5:=hkp.on Rm b25;have r6:=hkp.on Rm b26;have UO:=HB2.trans (hkp.below Rv.out)
       by_cases hlt:k<gs.length
       · obtain ⟨r,hr⟩:∃ r,gs[k]?=some r:=⟨_,List.getElem?_eq_getElem hlt⟩;obtain ⟨h,hh⟩:∃ h,hrs[k]?=some h:=⟨_,List.getElem?_eq_getElem (by have:=G1.out;omega)⟩;have Ny:(gs.zip hrs)[k]?=some (r,h):=(by rw [List.getElem?_zip_eq_some];exact ⟨hr,hh⟩);have hrm:(gs.map (·.1))[k]?=some r.1:=(by rw [List.getElem?_map,hr];rfl);obtain ⟨gb,bO,rfl,hgb,c0,c1,c2⟩:=(HG.out.below UO).rg hrm;obtain ⟨GZ,hoff,rfl,qF,d0,d1,d2⟩:=(HH.out.below UO).rg hh;have hlt':(k:Int)<(hrs.length:Int):=(by have:=G1.out;omega);have Pz:=hide (any_take_succ (gs.zip hrs) Vz k (r,h) Ny);have xL:=hide Ny;clear hr hh hrm Ny;obtain ⟨sb,hsb⟩:∃ sb,((r.1.n:Int) != ZO h.v)=sb:=⟨_,rfl⟩;go_wp2
         go_quiet ((go_at_call 47;exact Calls.quiet_of_same ((XO _ _).mono fun _ _ ⟨a,b⟩=>⟨a,b.symm⟩)))
         cases sb
         case true =>
          go_wp2;go_ret2;rw [HF.out,if_pos (Yo _ _ k _ xL.out hsb)];exact ⟨_,rfl,World.ownsRow_nil _ _ _ _,below_drewN UO _⟩
         case false =>
          have hb2':((gs.zip hrs).take (k+1)).any Vz=false:=(by rw [Pz.out,Va.out];exact hsb);have qK:=hide hb2';clear hb2';go_wp2;go_roundw
          case rel=>exact ⟨k+1,by omega,by go_num,qK.out,⟨hkp.os,hkp.tape,hkp.output,hkp.size,hkp.block⟩,aN.out⟩
          case measure=>simp [intOf];omega
       · have hk':k=gs.length:=(by omega);subst hk';have hsz':=Va.out;rw [TW] at hsz';have jJ:=hide hsz';clear hsz' Va;have hsm:=Fw jJ.out G1.out;have lC:=hide hsm;clear hsm;have HG2:=hide g2;have HG3:=hide g3;clear g2 g3;have hpl:ps.length<=65:=(by omega);have tX:qs.length<=4096:=(by omega);have hgl:=TI gs (fun x hx=>by have h1:=QY.out x hx;have h2:=lC.out x hx;have:=h1.1;omega);have zlz:OP.length<=68:=by omega
         have hgk:∀ k,(Y4 (gs.take k)).length<=65536:=fun k=>by
          have h1:=TI (gs.take k) (fun x hx=>by have h1:=QY.out x (List.mem_of_mem_take hx);have h2:=lC.out x (List.mem_of_mem_take hx);have:=h1.1;omega);rw [List.length_take] at h1;omega
         have HGK:=hide hgk;clear hgk;go_wp2;clear r2 r4 r5 r6
         go_loopw [4,9] (fun u i wr=>∃ k:Nat,k<=gs.length/\i=.int .i64 k/\((gs.zip hrs).take k).any Wy=false/\Z8 (Yn w0.heap.size) w2 wr/\RW wr (Yn w0.heap.size) u (OP++Y4 (gs.take k)))
          (fun _ i _=>gs.length - (intOf i).toNat)
         case atStart=>exact ⟨0,by omega,rfl,by simp,hkp,by simpa [Y4] using aN.out⟩
         case round =>
          clear aN hkp UO hk;obtain ⟨k,hk,rfl,hkd,hkp,hrw⟩:=hrel;have HKD:=hide hkd;clear hkd;have ED:=hide hrw;clear hrw;have r2:=hkp.on Rm b22;have r4:=hkp.on Rm b24;have r5:=hkp.on Rm b25;have r6:=hkp.on Rm b26;have UO:=HB2.trans (hkp.below Rv.out)
          by_cases hlt:k<gs.length
          · obtain ⟨r,hr⟩:∃ r,gs[k]?=some r:=⟨_,List.getElem?_eq_getElem hlt⟩;obtain ⟨h,hh⟩:∃ h,hrs[k]?=some h:=⟨_,List.getElem?_eq_getElem (by have:=G1.out;omega)⟩;have Ny:(gs.zip hrs)[k]?=some (r,h):=(by rw [List.getElem?_zip_eq_some];exact ⟨hr,hh⟩);have hrm:(gs.map (·.1))[k]?=some r.1:=(by rw [List.getElem?_map,hr];rfl);obtain ⟨gb,bO,rfl,hgb,e0,e1,e2⟩:=HG.out.rg hrm;obtain ⟨GZ,hoff,rfl,qF,d0,d1,d2⟩:=(HH.out.below UO).rg hh;have c0:=(UO.cell (p:=⟨gb,_,none⟩) hgb).trans e0;have c1:=(UO.cell (p:=⟨gb,_,none⟩) hgb).trans e1;have HE2:=hide e2;clear e0 e1 e2;have hlt':(k:Int)<(hrs.length:Int):=(by have:=G1.out;omega);have Ep:=hide (any_take_succ (gs.zip hrs) Wy k (r,h) Ny);have xL:=hide Ny;have hrg:=QY.out r (List.mem_of_getElem? hr);have zpu:=lC.out r (List.mem_of_getElem? hr);have qW:=hide hrg;clear hrg;have jB:=hide (NY gs k r hr);clear hr hh hrm Ny
            by_cases hd:r.1.d=h.d
            case neg =>
             have hkb:Wy (r,h)=true:=(by simp [Wy,hd]);have HKB:=hide hkb;clear hkb;have hd2:decide (r.1.d=h.d)=false:=(by simpa using hd);go_wp2
             go_quiet (fail)
             go_wp2;go_ret2;rw [HF.out,if_neg (by rw [jJ.out];simp),if_pos (Yo _ _ k _ xL.out HKB.out)];exact ⟨_,rfl,World.ownsRow_nil _ _ _ _,below_drewN UO _⟩
            case pos =>
             have hd2:decide (r.1.d=h.d)=true:=by simpa using hd
             by_cases hv:r.1.v=h.v
             case neg =>
              have hkb:Wy (r,h)=true:=(by simp [Wy,hv]);have HKB:=hide hkb;clear hkb;go_wp2
              go_quiet (fail)
              go_wp2;go_ret2;rw [HF.out,if_neg (by rw [jJ.out];simp),if_pos (Yo _ _ k _ xL.out HKB.out)];exact ⟨_,rfl,World.ownsRow_nil _ _ _ _,below_drewN UO _⟩
             case pos =>
              have HKB:Hid (((gs.zip hrs).take (k+1)).any Wy=false):=(by apply hide;rw [Ep.out,HKD.out];simp [Wy,hd,hv]);go_wp2
              go_quiet (fail)
              have qm:=hide hkp;have HRR:=hide ED.out;have KD:∀ m,Z8 (Yn w0.heap.size) w2 (wr.drewN m):=fun m=>⟨hkp.os,hkp.tape,hkp.output,hkp.size,hkp.block⟩;have RD:∀ m,RW (wr.drewN m) (Yn w0.heap.size) u4 (OP++Y4 (gs.take k)):=fun m=>ED.out;have zrp:=hide KD;have zry:=hide RD;clear KD RD hd hd2 hv c0 c1 d0 d1 d2 r2 r4 r5 r6 UO;go_wp2
              go_loopw [4,10] (fun u j wr=>∃ t:Nat,t<=r.1.n/\j=.int .i64 t/\Z8 (Yn w0.heap.size) w2 wr/\RW wr (Yn w0.heap.size) u (OP++Y4 (gs.take k)++(r.2.take t).flatMap XW))
               (fun _ j _=>r.1.n - (intOf j).toNat)
              case atStart=>exact ⟨0,by omega,rfl,zrp.out _,by simpa using zry.out _⟩
              case round =>
               clear hkp ED zrp zry qm HRR;obtain ⟨t,ht,rfl,hkp,hrw⟩:=hrel;have UO:=HB2.trans (hkp.below Rv.out);have r4:=hkp.on Rm b24;have c2:=(UO.cell (p:=⟨gb,_,none⟩) hgb).trans HE2.out
               by_cases htl:t<r.1.n
               · obtain ⟨p,hp⟩:∃ p,r.2[t]?=some p:=⟨_,List.getElem?_eq_getElem (by have:=qW.out.1;omega)⟩;obtain ⟨pb,zqn,hA,hpb,p0,p1⟩:=(qW.out.2.below UO).pt hp;rw [hA] at c2;have HT:=hide (YF XW r.2 t p hp);have zsz:=XC XW 16 XK (r.2.take t);have hln:(OP++Y4 (gs.take k)++(r.2.take t).flatMap XW).length<=200000:=by
                  rw [List.length_append,List.length_append,zsz,List.length_take];have:=HGK.out k;omega
                 have HAA:=hide hA;clear hA hp zsz;go_wp2_with fail;refine (QU (Yn w0.heap.size) _ wr (fun j hj=>Nat.lt_of_lt_of_le (G8.out j hj) hkp.size) (by omega) _ hrw (by omega) p.1 p.2).mono ?_;rintro e w5 ⟨v5,rfl,k5,s5⟩;clear r4 c2 p0 p1;go_wp2;go_roundw
                 case rel=>exact ⟨t+1,by omega,by go_num,hkp.trans k5,by rw [HT.out,<- List.append_assoc];exact s5⟩
                 case measure=>simp [intOf];omega
               · have ht':t=r.1.n:=(by omega);have htk:r.2.take t=r.2:=List.take_of_length_le (by have:=qW.out.1;omega);rw [htk] at hrw;have zot:=hide hrw;clear hrw htk ht';go_wp2;go_roundw
                 case rel=>exact ⟨k+1,by omega,by go_num,HKB.out,hkp,by rw [jB.out,<- List.append_assoc];exact zot.out⟩
                 case measure=>simp [intOf];omega
          · have hk':k=gs.length:=(by omega);subst hk';have bZ:=HKD.out;rw [TW] at bZ;have HKS:=hide bZ;clear bZ HKD;have hrw:=ED.out;rw [List.take_length] at hrw;have G7:Hid (ZK op vs hrs Z0 gs ps qs=(Zx op vs hrs Z0++Y4 gs++ps.flatMap XW++qs.flatMap q24,0)):=by
             apply hide;rw [HF.out,if_neg (by rw [jJ.out];simp),if_neg (by rw [HKS.out];simp)]
            have zmo:(OP++Y4 gs).length<=70000:=(by rw [List.length_append];omega);have HR4:=hide hrw;clear hrw ED;go_wp2;clear r2 r4 r5 r6
            go_loopw [4,11] (fun u i wr=>∃ t:Nat,t<=ps.length/\i=.int .i64 t/\Z8 (Yn w0.heap.size) w2 wr/\RW wr (Yn w0.heap.size) u (OP++Y4 gs++(ps.take t).flatMap XW))
             (fun _ i _=>ps.length - (intOf i).toNat)
            case atStart=>exact ⟨0,by omega,rfl,hkp,by simpa using HR4.out⟩
            case round =>
             clear hkp HR4 UO hk;obtain ⟨t,ht,rfl,hkp,hrw⟩:=hrel;have UO:=HB2.trans (hkp.below Rv.out);have r5:=hkp.on Rm b25
             by_cases htl:t<ps.length
             · obtain ⟨p,hp⟩:∃ p,ps[t]?=some p:=⟨_,List.getElem?_eq_getElem htl⟩;obtain ⟨pb,zqn,rfl,hpb,p0,p1⟩:=(Jv.out.below UO).pt hp;have HT:=hide (YF XW ps t p hp);have hln:(OP++Y4 gs++(ps.take t).flatMap XW).length<=200000:=by
                rw [List.length_append,XC XW 16 XK,List.length_take];omega
               clear hp;go_wp2_with fail;refine (QU (Yn w0.heap.size) _ wr (fun j hj=>Nat.lt_of_lt_of_le (G8.out j hj) hkp.size) (by omega) _ hrw (by omega) p.1 p.2).mono ?_;rintro e w5 ⟨v5,rfl,k5,s5⟩;clear r5 p0 p1;go_wp2;go_roundw
               case rel=>exact ⟨t+1,by omega,by go_num,hkp.trans k5,by rw [HT.out,<- List.append_assoc];exact s5⟩
               case measure=>simp [intOf];omega
             · have ht':t=ps.length:=(by omega);subst ht';rw [List.take_length] at hrw;have zmp:(OP++Y4 gs++ps.flatMap XW).length<=80000:=(by rw [List.length_append,XC XW 16 XK];omega);have HR6:=hide hrw;clear hrw;go_wp2;clear r5
               go_loopw [4,12] (fun u i wr=>∃ t:Nat,t<=qs.length/\i=.int .i64 t/\Z8 (Yn w0.heap.size) w2 wr/\RW wr (Yn w0.heap.size) u (OP++Y4 gs++ps.flatMap XW++(qs.take t).flatMap q24))
                (fun _ i _=>qs.length - (intOf i).toNat)
               case atStart=>exact ⟨0,by omega,rfl,hkp,by simpa using HR6.out⟩
               case round =>
                clear hkp HR6 UO ht;obtain ⟨t,ht,rfl,hkp,hrw⟩:=hrel;have UO:=HB2.trans (hkp.below Rv.out);have r6:=hkp.on Rm b26
                by_cases htl:t<qs.length
                · obtain ⟨q,hq⟩:∃ q,qs[t]?=some q:=⟨_,List.getElem?_eq_getElem htl⟩;obtain ⟨qb,Nz,rfl,CK,q0,q1,q2⟩:=(aL.out.below UO).qu hq;have hqU:=HQU.out q (List.mem_of_getElem? hq);have HT:=hide (YF q24 qs t q hq);have hln:(OP++Y4 gs++ps.flatMap XW++(qs.take t).flatMap q24).length<=200000:=by
                   rw [List.length_append,XC q24 24 Mi,List.length_take];omega
                  have xq:=Rv.out qb CK;have HQ:=hide hqU;generalize hcs:OP++Y4 gs++ps.flatMap XW++(qs.take t).flatMap q24=cs at hrw hln;have xH:=hide hcs;have Tf:∀ k,Yn w0.heap.size k->k<wr.heap.size:=fun k hk=>Nat.lt_of_lt_of_le (G8.out k hk) hkp.size;have C1:=QU (Yn w0.heap.size) cs wr.drew Tf (by omega) u4 hrw (by omega) q.1.1 q.1.2
                  have C2:∀ wk v1,(Z8 (Yn w0.heap.size) wr wk/\wk.cell? ⟨w.heap.size,6,none⟩=some (.slice (some ⟨qb,Nz,none⟩) qs.length qc)/\wk.cell? ⟨qb,Nz+t*3,none⟩=some (.int .i64 q.1.1)/\wk.cell? ⟨qb,Nz+t*3+1,none⟩=some (.int .i64 q.1.2)/\wk.cell? ⟨qb,Nz+t*3+2,none⟩=some (.int .u64 q.2))->RW wk (Yn w0.heap.size) v1 (cs++XW (q.1.1,q.1.2)) ->
                   Calls prog 59 #[v1,.int .u64 q.2] wk (OM (Yn w0.heap.size) wk (cs++XW (q.1.1,q.1.2)++YH q.2)) :=
                   fun wk v1 h1 h2=>Uq (Yn w0.heap.size) _ wk (fun k hk=>Nat.lt_of_lt_of_le (Tf k hk) h1.1.size) (by rw [List.length_append,XK];omega) v1 h2 _ HQ.out
                  have Ru:=hide C1;have OD:=hide C2;clear C1 C2 hq hcs hqU Tf;go_wp2
                  go_region_held3 (fun w'=>Z8 (Yn w0.heap.size) wr w'/\w'.cell? ⟨w.heap.size,6,none⟩=some (.slice (some ⟨qb,Nz,none⟩) qs.length qc)/\w'.cell? ⟨qb,Nz+t*3,none⟩=some (.int .i64 q.1.1)/\w'.cell? ⟨qb,Nz+t*3+1,none⟩=some (.int .i64 q.1.2)/\w'.cell? ⟨qb,Nz+t*3+2,none⟩=some (.int .u64 q.2))
                   (first|exact kr Rm xq (Z8.drew _ _) ⟨Z8.refl _ _,r6,q0,q1,q2⟩|exact kr Rm xq (by assumption) (by assumption)|exact ⟨Z8.refl _ _,r6,q0,q1,q2⟩)
                   (first|(go_at_call 58;((with_reducible refine Ru.out.mono ?_);rintro e w' ⟨v',rfl,k',r'⟩))|(go_at_call 59;((with_reducible refine (OD.out _ _ (by assumption) (by assumption)).mono ?_);rintro e w' ⟨v',rfl,k',r'⟩)))
                  have hS:=(by assumption:Z8 (Yn w0.heap.size) wr w'/\w'.cell? ⟨w.heap.size,6,none⟩=some (.slice (some ⟨qb,Nz,none⟩) qs.length qc)/\w'.cell? ⟨qb,Nz+t*3,none⟩=some (.int .i64 q.1.1)/\w'.cell? ⟨qb,Nz+t*3+1,none⟩=some (.int .i64 q.1.2)/\w'.cell? ⟨qb,Nz+t*3+2,none⟩=some (.int .u64 q.2)).1;have r3:RW w' (Yn w0.heap.size) v' (cs++q24 q):=by
                   rw [List.append_assoc] at r';exact r'
                  clear r6 q0 q1 q2;go_wp2;go_roundw
                  case rel=>exact ⟨t+1,by omega,by go_num,hkp.trans hS,by rw [HT.out,<- List.append_assoc,xH.out];exact r3⟩
                  case measure=>simp [intOf];omega
                · have ht':t=qs.length:=(by omega);subst ht';rw [List.take_length] at hrw;generalize Ig:OP++Y4 gs++ps.flatMap XW++qs.flatMap q24=bF at hrw;have qM:=hide Ig;clear Ig;have SS:=DX (base':=w.heap.size) hrw (by have:=HZ0.out;omega);obtain ⟨RA,vU,rfl,_⟩:=Zl SS;clear r6;go_wp2;go_ret2;rw [G7.out,Ju.out,qM.out];exact ⟨.slice RA _ vU,rfl,SS,UO⟩
 · have hf:ZK op vs hrs Z0 gs ps qs=([],ZT op vs hrs Z0):=(by unfold ZK;rw [if_pos he]);have hf2:ZP op vs hrs Z0=([],ZT op vs hrs Z0):=(by unfold ZP;rw [if_neg he]);rw [hf];have he':(ZT op vs hrs Z0 != 0)=true:=(by rw [bne_iff_ne];exact he);have ql:=hide hf2;clear hf2 hf;have HE:=hide he;clear he;go_enter func24,ntmps24;go_wp2_with fail;rw [<- hw0];have HW0:=hide hw0;clear hw0;have F:=SL op vs Z0 hrs HA hc w0 ((HH.out.below hb0).more hb0.size);rw [ql.out] at F;refine F.mono ?_;clear F;rintro e w1 ⟨v,rfl,hv1,hb1⟩;go_wp2;go_ret2;exact ⟨_,rfl,World.ownsRow_nil _ _ _ _,Z9 hb0 hb1⟩
end
end
end Go.Proofs.YthnenedoblncjaaGreatDoor