/- RefEncode -/
import Derived.Test.YtpnoofphfomjoaaGreatDoorPkM07
import Derived.Test.YtpnoofphfomjoaaGreatDoorPkM08
import Derived.Test.YtpnoofphfomjoaaGreatDoorPkD02
import Derived.Test.YtpnoofphfomjoaaGreatDoorPkD03
set_option maxRecDepth 1000000
set_option maxHeartbeats 8000000
namespace Go.Proofs.YtpnoofphfomjoaaGreatDoor
section
open Go.RowKit
theorem rw_new {w:World} {base:Nat} {bs:List Int} {v:Value} (h:w.ownsRow base 5 1 v bs.length (byCells bs)):RW w (LtP base) v bs :=
 ⟨own_mono h (Nat.zero_le _),fun k hk hp=>by have:=own_base h hk;unfold LtP at hp;omega⟩
theorem rw_own {w:World} {base base':Nat} {bs:List Int} {v:Value} (h:RW w (LtP base) v bs) (hb:base'≤base):w.ownsRow base' 5 1 v bs.length (byCells bs) :=
 own_raise h.1 fun k hk=>by have:=h.2 k hk;unfold LtP at this;omega
theorem KeepP.on {P:Nat→Prop} {w w':World} {b o:Nat} {v:Value} (h:KeepP P w w') (hb:P b) (hc:w.cell? ⟨b,o,none⟩=some v):w'.cell? ⟨b,o,none⟩=some v:=(h.cell hb o).trans hc
theorem keepQ {R:Nat→Prop} {w0 wk w':World} {b c o1 o2 o3:Nat} {u v1 v2 v3:Value} (hb:R b) (hc:R c) (hk:KeepP R wk w')
 (h:KeepP R w0 wk∧wk.cell? ⟨b,6,none⟩=some u∧wk.cell? ⟨c,o1,none⟩=some v1∧wk.cell? ⟨c,o2,none⟩=some v2∧wk.cell? ⟨c,o3,none⟩=some v3) :
 KeepP R w0 w'∧w'.cell? ⟨b,6,none⟩=some u∧w'.cell? ⟨c,o1,none⟩=some v1∧w'.cell? ⟨c,o2,none⟩=some v2∧w'.cell? ⟨c,o3,none⟩=some v3 :=
 ⟨h.1.trans hk,hk.on hb h.2.1,hk.on hc h.2.2.1,hk.on hc h.2.2.2.1,hk.on hc h.2.2.2.2⟩
section
variable (op vs pts:Int) (hrs:List Rg) (HA:Option Addr) (hc:Nat) (gs:List Gr) (GA:Option Addr) (gc:Nat) (ps:List (Int × Int)) (PA:Option Addr) (pc:Nat) (qs:List ((Int × Int) × Int)) (QA:Option Addr) (qc:Nat) (w:World)
variable (hh:Sl w w.heap.size HA (rgCells hrs)) (hgc:Sl w w.heap.size GA (rgCells (gs.map (·.1)))) (hgs:GsOk w w.heap.size gs) (hps:Sl w w.heap.size PA (ptCs ps)) (hqs:Sl w w.heap.size QA (quCs qs)) (hqu:∀ q∈qs,U64 q.2)
include hh hgc hgs hps hqs hqu
theorem rencode_any:Calls Tryz.prog 52 #[.agg #[.int .i64 op,.int .i64 vs,.slice HA hrs.length hc,.int .i64 pts,.slice GA gs.length gc,.slice PA ps.length pc,.slice QA qs.length qc]] w (Formatted (hencode op vs hrs pts gs ps qs) w):=by
 have HH:=hide hh;clear hh
 have HG:=hide hgc;clear hgc
 have HGS:=hide hgs;clear hgs
 have HPS:=hide hps;clear hps
 have HQS:=hide hqs;clear hqs
 have HQU:=hide hqu;clear hqu
 obtain ⟨w0,hw0⟩:∃ w0,w0=w.alloc (.cells #[.int .i64 op,.int .i64 vs,.slice HA hrs.length hc,.int .i64 pts,.slice GA gs.length gc,.slice PA ps.length pc,.slice QA qs.length qc] 41):=⟨_,rfl⟩
 have hb0:Below w.heap.size w w0:=by rw [hw0];exact bA
 have hz0:w0.heap.size=w.heap.size+1:=by rw [hw0];simp
 have B0:Blk w0 w.heap.size 41 #[.int .i64 op,.int .i64 vs,.slice HA hrs.length hc,.int .i64 pts,.slice GA gs.length gc,.slice PA ps.length pc,.slice QA qs.length qc]:=by rw [hw0];exact Blk.new _ _ _
 have HZ0:=hide hz0;clear hz0
 have b00:=B0.cell (i:=0) rfl
 have b01:=B0.cell (i:=1) rfl
 have b02:=B0.cell (i:=2) rfl
 have b03:=B0.cell (i:=3) rfl
 by_cases he:hcheck op vs hrs pts=0
 · obtain ⟨hv0,hv1,hrl,hcp,hcq⟩:=cnt_bd he
   have hf2:hformat op vs hrs pts=(fbytes op vs hrs pts,0):=by unfold hformat;rw [if_pos he]
   have HF2:=hide hf2;clear hf2
   have HE:=hide he;clear he
   obtain ⟨N,hN⟩:∃ N,cntP op vs=N:=⟨_,rfl⟩
   obtain ⟨M,hM⟩:∃ M,cntQ op pts=M:=⟨_,rfl⟩
   obtain ⟨b1,b2,b3,g1,g2,g3⟩:∃ b1 b2 b3:Bool,((gs.length:Int) != (hrs.length:Int))=b1∧((ps.length:Int) != N)=b2∧((qs.length:Int) != M)=b3:=⟨_,_,_,rfl,rfl,rfl⟩
   rw [hN] at hcp;rw [hM] at hcq
   have HN:=hide hN;have HM:=hide hM
   clear hN hM
   go_enter Tryz.func52,Tryz.ntmps52
   go_wp2_with fail
   rw [← hw0]
   have HW0:=hide hw0;clear hw0
   have F:=rformat_any op vs pts hrs HA hc w0 ((HH.out.below hb0).more hb0.size)
   rw [HF2.out] at F
   refine F.mono ?_
   clear F
   rintro e w1 ⟨v,rfl,hv1',hb1⟩
   have B1:=B0.step hb1
   have b10:=B1.cell (i:=0) rfl
   have b11:=B1.cell (i:=1) rfl
   have b12:=B1.cell (i:=2) rfl
   have b13:=B1.cell (i:=3) rfl
   dsimp only at hv1'
   have hfl:=fbytes_le op vs hrs pts
   generalize hbs0:fbytes op vs hrs pts=bs0 at hv1' hfl
   have HBS:=hide hbs0;clear hbs0
   go_wp2_with fail
   have C:=rcounts_any op vs pts w1 hv0 hv1 HA hrs.length hc
   rw [HN.out,HM.out] at C
   refine C.mono ?_
   clear C
   rintro e w2 ⟨rfl,hb2⟩
   have B2:=B1.step hb2
   have b24:=B2.cell (i:=4) rfl
   have b22:=B2.cell (i:=2) rfl
   have b25:=B2.cell (i:=5) rfl
   have b26:=B2.cell (i:=6) rfl
   have HB2:=bl_step (bl_step hb0 hb1) hb2
   clear b00 b01 b02 b03 b10 b11 b12 b13
   cases b1
   case true =>
    go_wp2
    go_ret2
    have hf:hencode op vs hrs pts gs ps qs=([],8):=by unfold hencode;rw [if_neg (by simpa using HE.out),if_pos (.inl (by simp at g1;omega))]
    rw [hf]
    exact ⟨_,rfl,World.ownsRow_nil _ _ _ _,HB2⟩
   case false =>
    have g1':gs.length=hrs.length:=by simp at g1;omega
    have G1:=hide g1';clear g1'
    cases b2
    case true =>
     go_wp2
     go_ret2
     have hf:hencode op vs hrs pts gs ps qs=([],8):=by unfold hencode;rw [if_neg (by simpa using HE.out),HN.out,if_pos (.inr (.inl (by simpa using g2)))]
     rw [hf]
     exact ⟨_,rfl,World.ownsRow_nil _ _ _ _,HB2⟩
    case false =>
     obtain rfl:N=(ps.length:Int):=by simp at g2;omega
     cases b3
     case true =>
      go_wp2
      go_ret2
      have hf:hencode op vs hrs pts gs ps qs=([],8):=by unfold hencode;rw [if_neg (by simpa using HE.out),HM.out,if_pos (.inr (.inr (by simpa using g3)))]
      rw [hf]
      exact ⟨_,rfl,World.ownsRow_nil _ _ _ _,HB2⟩
     case false =>
      obtain rfl:M=(qs.length:Int):=by simp at g3;omega
      have HF:Hid (hencode op vs hrs pts gs ps qs=if (gs.zip hrs).any szBad=true then ([],8) else if (gs.zip hrs).any kdBad=true then ([],2)
       else (fbytes op vs hrs pts++gBytes gs++ps.flatMap pt16++qs.flatMap q24,0)):=by
       apply hide
       unfold hencode
       rw [if_neg (by simpa using HE.out),HN.out,HM.out,if_neg (by have:=G1.out;omega)]
      have hgl64:gs.length≤64:=by have:=G1.out;omega
      have HR2:=hide (rw_new hv1');clear hv1'
      have hr2:RW w2 (LtP w0.heap.size) v bs0:=HR2.out.step hb2
      clear HR2
      have HRW:=hide hr2;clear hr2
      have hLT:∀ k,k<w.heap.size→LtP w0.heap.size k:=fun k hk=>by have:=HZ0.out;unfold LtP;omega
      have hLT0:LtP w0.heap.size w.heap.size:=by have:=HZ0.out;unfold LtP;omega
      have hPA:∀ k,LtP w0.heap.size k→k<w2.heap.size:=fun k hk=>by have:=hb1.size;have:=hb2.size;unfold LtP at hk;omega
      have HLT:=hide hLT;have HPA:=hide hPA
      clear hLT hPA
      go_wp2
      go_loopw [8] (fun i wr=>∃ k:Nat,k≤gs.length∧i=.int .i64 k∧((gs.zip hrs).take k).any szBad=false∧KeepP (LtP w0.heap.size) w2 wr∧RW wr (LtP w0.heap.size) v bs0)
       (fun i _=>gs.length - (intOf i).toNat)
      case atStart=>exact ⟨0,by omega,rfl,by simp,KeepP.refl _ _,HRW.out⟩
      case round =>
       obtain ⟨k,hk,rfl,hsz,hkp,hrw⟩:=hrel
       have HSZ:=hide hsz;clear hsz
       have HRW2:=hide hrw;clear hrw HRW
       have r2:=hkp.on hLT0 b22
       have r4:=hkp.on hLT0 b24
       have r5:=hkp.on hLT0 b25
       have r6:=hkp.on hLT0 b26
       have HBr:=HB2.trans (hkp.below HLT.out)
       by_cases hlt:k<gs.length
       · obtain ⟨r,hr⟩:∃ r,gs[k]?=some r:=⟨_,List.getElem?_eq_getElem hlt⟩
         obtain ⟨h,hh⟩:∃ h,hrs[k]?=some h:=⟨_,List.getElem?_eq_getElem (by have:=G1.out;omega)⟩
         have hzip:(gs.zip hrs)[k]?=some (r,h):=by rw [List.getElem?_zip_eq_some];exact ⟨hr,hh⟩
         have hrm:(gs.map (·.1))[k]?=some r.1:=by rw [List.getElem?_map,hr];rfl
         obtain ⟨gb,goff,rfl,hgb,c0,c1,c2⟩:=(HG.out.below HBr).rg hrm
         obtain ⟨hb_,hoff,rfl,hhb,d0,d1,d2⟩:=(HH.out.below HBr).rg hh
         have hlt':(k:Int)<(hrs.length:Int):=by have:=G1.out;omega
         have HTS:=hide (any_take_succ (gs.zip hrs) szBad k (r,h) hzip)
         have HZIP:=hide hzip
         clear hr hh hrm hzip
         obtain ⟨sb,hsb⟩:∃ sb,((r.1.n:Int) != sizeOfReg h.v)=sb:=⟨_,rfl⟩
         go_wp2
         go_quiet ((go_at_call 73;exact Calls.quiet_of_same ((refSize_any _ _).mono fun _ _ ⟨a,b⟩=>⟨a,b.symm⟩)))
         cases sb
         case true =>
          go_wp2
          go_ret2
          rw [HF.out,if_pos (any_of_get _ _ k _ HZIP.out hsb)]
          exact ⟨_,rfl,World.ownsRow_nil _ _ _ _,below_drewN HBr _⟩
         case false =>
          have hb2':((gs.zip hrs).take (k+1)).any szBad=false:=by rw [HTS.out,HSZ.out];exact hsb
          have HB2':=hide hb2'
          clear hb2'
          go_wp2
          go_roundw
          case rel=>exact ⟨k+1,by omega,by go_num,HB2'.out,⟨hkp.os,hkp.tape,hkp.output,hkp.size,hkp.block⟩,HRW2.out⟩
          case measure=>simp [intOf];omega
       · have hk':k=gs.length:=by omega
         subst hk'
         have hsz':=HSZ.out
         rw [zip_take_all] at hsz'
         have HS':=hide hsz'
         clear hsz' HSZ
         have hsm:=gs_small HS'.out G1.out
         have HSM:=hide hsm;clear hsm
         have HG2:=hide g2;have HG3:=hide g3
         clear g2 g3
         have hpl:ps.length≤65:=by omega
         have hql:qs.length≤4096:=by omega
         have hgl:=gBytes_len gs (fun x hx=>by have h1:=HGS.out x hx;have h2:=HSM.out x hx;have:=h1.1;omega)
         have hfl2:bs0.length≤68:=by omega
         have hgk:∀ k,(gBytes (gs.take k)).length≤65536:=fun k=>by
          have h1:=gBytes_len (gs.take k) (fun x hx=>by have h1:=HGS.out x (List.mem_of_mem_take hx);have h2:=HSM.out x (List.mem_of_mem_take hx);have:=h1.1;omega)
          rw [List.length_take] at h1;omega
         have HGK:=hide hgk;clear hgk
         go_wp2
         clear r2 r4 r5 r6
         go_loopw [4,9] (fun u i wr=>∃ k:Nat,k≤gs.length∧i=.int .i64 k∧((gs.zip hrs).take k).any kdBad=false∧KeepP (LtP w0.heap.size) w2 wr∧RW wr (LtP w0.heap.size) u (bs0++gBytes (gs.take k)))
          (fun _ i _=>gs.length - (intOf i).toNat)
         case atStart=>exact ⟨0,by omega,rfl,by simp,hkp,by simpa [gBytes] using HRW2.out⟩
         case round =>
          clear HRW2 hkp HBr hk
          obtain ⟨k,hk,rfl,hkd,hkp,hrw⟩:=hrel
          have HKD:=hide hkd;clear hkd
          have HRW3:=hide hrw;clear hrw
          have r2:=hkp.on hLT0 b22
          have r4:=hkp.on hLT0 b24
          have r5:=hkp.on hLT0 b25
          have r6:=hkp.on hLT0 b26
          have HBr:=HB2.trans (hkp.below HLT.out)
          by_cases hlt:k<gs.length
          · obtain ⟨r,hr⟩:∃ r,gs[k]?=some r:=⟨_,List.getElem?_eq_getElem hlt⟩
            obtain ⟨h,hh⟩:∃ h,hrs[k]?=some h:=⟨_,List.getElem?_eq_getElem (by have:=G1.out;omega)⟩
            have hzip:(gs.zip hrs)[k]?=some (r,h):=by rw [List.getElem?_zip_eq_some];exact ⟨hr,hh⟩
            have hrm:(gs.map (·.1))[k]?=some r.1:=by rw [List.getElem?_map,hr];rfl
            obtain ⟨gb,goff,rfl,hgb,e0,e1,e2⟩:=HG.out.rg hrm
            obtain ⟨hb_,hoff,rfl,hhb,d0,d1,d2⟩:=(HH.out.below HBr).rg hh
            have c0:=(HBr.cell (p:=⟨gb,_,none⟩) hgb).trans e0
            have c1:=(HBr.cell (p:=⟨gb,_,none⟩) hgb).trans e1
            have HE2:=hide e2
            clear e0 e1 e2
            have hlt':(k:Int)<(hrs.length:Int):=by have:=G1.out;omega
            have HTK:=hide (any_take_succ (gs.zip hrs) kdBad k (r,h) hzip)
            have HZIP:=hide hzip
            have hrg:=HGS.out r (List.mem_of_getElem? hr)
            have hr64:=HSM.out r (List.mem_of_getElem? hr)
            have HRG:=hide hrg;clear hrg
            have HGB:=hide (gBytes_succ gs k r hr)
            clear hr hh hrm hzip
            by_cases hd:r.1.d=h.d
            case neg =>
             have hkb:kdBad (r,h)=true:=by simp [kdBad,hd]
             have HKB:=hide hkb;clear hkb
             have hd2:decide (r.1.d=h.d)=false:=by simpa using hd
             go_wp2
             go_quiet (fail)
             go_wp2
             go_ret2
             rw [HF.out,if_neg (by rw [HS'.out];simp),if_pos (any_of_get _ _ k _ HZIP.out HKB.out)]
             exact ⟨_,rfl,World.ownsRow_nil _ _ _ _,below_drewN HBr _⟩
            case pos =>
             have hd2:decide (r.1.d=h.d)=true:=by simpa using hd
             by_cases hv:r.1.v=h.v
             case neg =>
              have hkb:kdBad (r,h)=true:=by simp [kdBad,hv]
              have HKB:=hide hkb;clear hkb
              go_wp2
              go_quiet (fail)
              go_wp2
              go_ret2
              rw [HF.out,if_neg (by rw [HS'.out];simp),if_pos (any_of_get _ _ k _ HZIP.out HKB.out)]
              exact ⟨_,rfl,World.ownsRow_nil _ _ _ _,below_drewN HBr _⟩
             case pos =>
              have HKB:Hid (((gs.zip hrs).take (k+1)).any kdBad=false):=by apply hide;rw [HTK.out,HKD.out];simp [kdBad,hd,hv]
              go_wp2
              go_quiet (fail)
              have HKR:=hide hkp;have HRR:=hide HRW3.out
              have KD:∀ m,KeepP (LtP w0.heap.size) w2 (wr.drewN m):=fun m=>⟨hkp.os,hkp.tape,hkp.output,hkp.size,hkp.block⟩
              have RD:∀ m,RW (wr.drewN m) (LtP w0.heap.size) u4 (bs0++gBytes (gs.take k)):=fun m=>HRW3.out
              have HKD2:=hide KD;have HRD2:=hide RD
              clear KD RD hd hd2 hv c0 c1 d0 d1 d2 r2 r4 r5 r6 HBr
              go_wp2
              go_loopw [4,10] (fun u j wr=>∃ t:Nat,t≤r.1.n∧j=.int .i64 t∧KeepP (LtP w0.heap.size) w2 wr∧RW wr (LtP w0.heap.size) u (bs0++gBytes (gs.take k)++(r.2.take t).flatMap pt16))
               (fun _ j _=>r.1.n - (intOf j).toNat)
              case atStart=>exact ⟨0,by omega,rfl,HKD2.out _,by simpa using HRD2.out _⟩
              case round =>
               clear hkp HRW3 HKD2 HRD2 HKR HRR
               obtain ⟨t,ht,rfl,hkp,hrw⟩:=hrel
               have HBr:=HB2.trans (hkp.below HLT.out)
               have r4:=hkp.on hLT0 b24
               have c2:=(HBr.cell (p:=⟨gb,_,none⟩) hgb).trans HE2.out
               by_cases htl:t<r.1.n
               · obtain ⟨p,hp⟩:∃ p,r.2[t]?=some p:=⟨_,List.getElem?_eq_getElem (by have:=HRG.out.1;omega)⟩
                 obtain ⟨pb,poff,hA,hpb,p0,p1⟩:=(HRG.out.2.below HBr).pt hp
                 rw [hA] at c2
                 have HT:=hide (flat_take_succ pt16 r.2 t p hp)
                 have hfl4:=flat_len pt16 16 pt16_length (r.2.take t)
                 have hln:(bs0++gBytes (gs.take k)++(r.2.take t).flatMap pt16).length≤200000:=by
                  rw [List.length_append,List.length_append,hfl4,List.length_take];have:=HGK.out k;omega
                 have HAA:=hide hA
                 clear hA hp hfl4
                 go_wp2_with fail
                 refine (rpoint_any (LtP w0.heap.size) _ wr (fun j hj=>Nat.lt_of_lt_of_le (HPA.out j hj) hkp.size) (by omega) _ hrw (by omega) p.1 p.2).mono ?_
                 rintro e w5 ⟨v5,rfl,k5,s5⟩
                 clear r4 c2 p0 p1
                 go_wp2
                 go_roundw
                 case rel=>exact ⟨t+1,by omega,by go_num,hkp.trans k5,by rw [HT.out,← List.append_assoc];exact s5⟩
                 case measure=>simp [intOf];omega
               · have ht':t=r.1.n:=by omega
                 have htk:r.2.take t=r.2:=List.take_of_length_le (by have:=HRG.out.1;omega)
                 rw [htk] at hrw
                 have HRW5:=hide hrw;clear hrw htk ht'
                 go_wp2
                 go_roundw
                 case rel=>exact ⟨k+1,by omega,by go_num,HKB.out,hkp,by rw [HGB.out,← List.append_assoc];exact HRW5.out⟩
                 case measure=>simp [intOf];omega
          · have hk':k=gs.length:=by omega
            subst hk'
            have hkd':=HKD.out
            rw [zip_take_all] at hkd'
            have HKS:=hide hkd';clear hkd' HKD
            have hrw:=HRW3.out
            rw [List.take_length] at hrw
            have HFIN:Hid (hencode op vs hrs pts gs ps qs=(fbytes op vs hrs pts++gBytes gs++ps.flatMap pt16++qs.flatMap q24,0)):=by
             apply hide;rw [HF.out,if_neg (by rw [HS'.out];simp),if_neg (by rw [HKS.out];simp)]
            have hln0:(bs0++gBytes gs).length≤70000:=by rw [List.length_append];omega
            have HR4:=hide hrw;clear hrw HRW3
            go_wp2
            clear r2 r4 r5 r6
            go_loopw [4,11] (fun u i wr=>∃ t:Nat,t≤ps.length∧i=.int .i64 t∧KeepP (LtP w0.heap.size) w2 wr∧RW wr (LtP w0.heap.size) u (bs0++gBytes gs++(ps.take t).flatMap pt16))
             (fun _ i _=>ps.length - (intOf i).toNat)
            case atStart=>exact ⟨0,by omega,rfl,hkp,by simpa using HR4.out⟩
            case round =>
             clear hkp HR4 HBr hk
             obtain ⟨t,ht,rfl,hkp,hrw⟩:=hrel
             have HBr:=HB2.trans (hkp.below HLT.out)
             have r5:=hkp.on hLT0 b25
             by_cases htl:t<ps.length
             · obtain ⟨p,hp⟩:∃ p,ps[t]?=some p:=⟨_,List.getElem?_eq_getElem htl⟩
               obtain ⟨pb,poff,rfl,hpb,p0,p1⟩:=(HPS.out.below HBr).pt hp
               have HT:=hide (flat_take_succ pt16 ps t p hp)
               have hln:(bs0++gBytes gs++(ps.take t).flatMap pt16).length≤200000:=by
                rw [List.length_append,flat_len pt16 16 pt16_length,List.length_take];omega
               clear hp
               go_wp2_with fail
               refine (rpoint_any (LtP w0.heap.size) _ wr (fun j hj=>Nat.lt_of_lt_of_le (HPA.out j hj) hkp.size) (by omega) _ hrw (by omega) p.1 p.2).mono ?_
               rintro e w5 ⟨v5,rfl,k5,s5⟩
               clear r5 p0 p1
               go_wp2
               go_roundw
               case rel=>exact ⟨t+1,by omega,by go_num,hkp.trans k5,by rw [HT.out,← List.append_assoc];exact s5⟩
               case measure=>simp [intOf];omega
             · have ht':t=ps.length:=by omega
               subst ht'
               rw [List.take_length] at hrw
               have hln1:(bs0++gBytes gs++ps.flatMap pt16).length≤80000:=by rw [List.length_append,flat_len pt16 16 pt16_length];omega
               have HR6:=hide hrw;clear hrw
               go_wp2
               clear r5
               go_loopw [4,12] (fun u i wr=>∃ t:Nat,t≤qs.length∧i=.int .i64 t∧KeepP (LtP w0.heap.size) w2 wr∧RW wr (LtP w0.heap.size) u (bs0++gBytes gs++ps.flatMap pt16++(qs.take t).flatMap q24))
                (fun _ i _=>qs.length - (intOf i).toNat)
               case atStart=>exact ⟨0,by omega,rfl,hkp,by simpa using HR6.out⟩
               case round =>
                clear hkp HR6 HBr ht
                obtain ⟨t,ht,rfl,hkp,hrw⟩:=hrel
                have HBr:=HB2.trans (hkp.below HLT.out)
                have r6:=hkp.on hLT0 b26
                by_cases htl:t<qs.length
                · obtain ⟨q,hq⟩:∃ q,qs[t]?=some q:=⟨_,List.getElem?_eq_getElem htl⟩
                  obtain ⟨qb,qoff,rfl,hqb,q0,q1,q2⟩:=(HQS.out.below HBr).qu hq
                  have hqU:=HQU.out q (List.mem_of_getElem? hq)
                  have HT:=hide (flat_take_succ q24 qs t q hq)
                  have hln:(bs0++gBytes gs++ps.flatMap pt16++(qs.take t).flatMap q24).length≤200000:=by
                   rw [List.length_append,flat_len q24 24 q24_length,List.length_take];omega
                  have hLQ:=HLT.out qb hqb
                  have HQ:=hide hqU
                  generalize hcs:bs0++gBytes gs++ps.flatMap pt16++(qs.take t).flatMap q24=cs at hrw hln
                  have HCS:=hide hcs
                  have hPr:∀ k,LtP w0.heap.size k→k<wr.heap.size:=fun k hk=>Nat.lt_of_lt_of_le (HPA.out k hk) hkp.size
                  have C1:=rpoint_any (LtP w0.heap.size) cs wr.drew hPr (by omega) u4 hrw (by omega) q.1.1 q.1.2
                  have C2:∀ wk v1,(KeepP (LtP w0.heap.size) wr wk∧wk.cell? ⟨w.heap.size,6,none⟩=some (.slice (some ⟨qb,qoff,none⟩) qs.length qc)∧wk.cell? ⟨qb,qoff+t*3,none⟩=some (.int .i64 q.1.1)∧wk.cell? ⟨qb,qoff+t*3+1,none⟩=some (.int .i64 q.1.2)∧wk.cell? ⟨qb,qoff+t*3+2,none⟩=some (.int .u64 q.2))→RW wk (LtP w0.heap.size) v1 (cs++pt16 (q.1.1,q.1.2)) →
                   Calls Tryz.prog 95 #[v1,.int .u64 q.2] wk (Worded (LtP w0.heap.size) wk (cs++pt16 (q.1.1,q.1.2)++word8 q.2)) :=
                   fun wk v1 h1 h2=>rword_any (LtP w0.heap.size) _ wk (fun k hk=>Nat.lt_of_lt_of_le (hPr k hk) h1.1.size) (by rw [List.length_append,pt16_length];omega) v1 h2 _ HQ.out
                  have HC1:=hide C1
                  have HC2:=hide C2
                  clear C1 C2 hq hcs hqU hPr
                  go_wp2
                  go_region_held3 (fun w'=>KeepP (LtP w0.heap.size) wr w'∧w'.cell? ⟨w.heap.size,6,none⟩=some (.slice (some ⟨qb,qoff,none⟩) qs.length qc)∧w'.cell? ⟨qb,qoff+t*3,none⟩=some (.int .i64 q.1.1)∧w'.cell? ⟨qb,qoff+t*3+1,none⟩=some (.int .i64 q.1.2)∧w'.cell? ⟨qb,qoff+t*3+2,none⟩=some (.int .u64 q.2))
                   (first | exact keepQ hLT0 hLQ (KeepP.drew _ _) ⟨KeepP.refl _ _,r6,q0,q1,q2⟩ | exact keepQ hLT0 hLQ (by assumption) (by assumption) | exact ⟨KeepP.refl _ _,r6,q0,q1,q2⟩)
                   (first | (go_at_call 94;((with_reducible refine HC1.out.mono ?_);rintro e w' ⟨v',rfl,k',r'⟩)) | (go_at_call 95;((with_reducible refine (HC2.out _ _ (by assumption) (by assumption)).mono ?_);rintro e w' ⟨v',rfl,k',r'⟩)))
                  have hS:=(by assumption:KeepP (LtP w0.heap.size) wr w'∧w'.cell? ⟨w.heap.size,6,none⟩=some (.slice (some ⟨qb,qoff,none⟩) qs.length qc)∧w'.cell? ⟨qb,qoff+t*3,none⟩=some (.int .i64 q.1.1)∧w'.cell? ⟨qb,qoff+t*3+1,none⟩=some (.int .i64 q.1.2)∧w'.cell? ⟨qb,qoff+t*3+2,none⟩=some (.int .u64 q.2)).1
                  have r3:RW w' (LtP w0.heap.size) v' (cs++q24 q):=by
                   rw [List.append_assoc] at r'
                   exact r'
                  clear r6 q0 q1 q2
                  go_wp2
                  go_roundw
                  case rel=>exact ⟨t+1,by omega,by go_num,hkp.trans hS,by rw [HT.out,← List.append_assoc,HCS.out];exact r3⟩
                  case measure=>simp [intOf];omega
                · have ht':t=qs.length:=by omega
                  subst ht'
                  rw [List.take_length] at hrw
                  generalize hbF:bs0++gBytes gs++ps.flatMap pt16++qs.flatMap q24=bF at hrw
                  have HBF:=hide hbF;clear hbF
                  have rown:=rw_own (base':=w.heap.size) hrw (by have:=HZ0.out;omega)
                  obtain ⟨RA,rcap,rfl,_⟩:=own_slice rown
                  clear r6
                  go_wp2
                  go_ret2
                  rw [HFIN.out,HBS.out,HBF.out]
                  exact ⟨.slice RA _ rcap,rfl,rown,HBr⟩
 · have hf:hencode op vs hrs pts gs ps qs=([],hcheck op vs hrs pts):=by unfold hencode;rw [if_pos he]
   have hf2:hformat op vs hrs pts=([],hcheck op vs hrs pts):=by unfold hformat;rw [if_neg he]
   rw [hf]
   have he':(hcheck op vs hrs pts != 0)=true:=by rw [bne_iff_ne];exact he
   have HF2:=hide hf2;clear hf2 hf
   have HE:=hide he;clear he
   go_enter Tryz.func52,Tryz.ntmps52
   go_wp2_with fail
   rw [← hw0]
   have HW0:=hide hw0;clear hw0
   have F:=rformat_any op vs pts hrs HA hc w0 ((HH.out.below hb0).more hb0.size)
   rw [HF2.out] at F
   refine F.mono ?_
   clear F
   rintro e w1 ⟨v,rfl,hv1,hb1⟩
   go_wp2
   go_ret2
   exact ⟨_,rfl,World.ownsRow_nil _ _ _ _,bl_step hb0 hb1⟩
end
end
end Go.Proofs.YtpnoofphfomjoaaGreatDoor
