/- SkipB21 RefHandle21 RefServe21 -/
import Derived.BigQuiet
import Derived.Deep.QuietTactic
import Derived.Lib.SliceRun
import Derived.Test.YthnenedoblncjaaGreatDoorPkA13
import Derived.Test.YthnenedoblncjaaGreatDoorPkA14
import Derived.Test.YthnenedoblncjaaGreatDoorPkA39
import Derived.Test.YthnenedoblncjaaGreatDoorPkA45
import Derived.Test.YthnenedoblncjaaGreatDoorPkA46
set_option maxRecDepth 1000000
set_option maxHeartbeats 8000000
namespace Go.Proofs.YthnenedoblncjaaGreatDoor
open Go.Proofs.Tryz
section
open Go.RowKit Go.Shelf
theorem Rf:∀ (rs:List Rg) (bs:List Int),(Yd rs bs).length=rs.length
 | [],_=>rfl
 | r::rs,bs=>by simp [Yd,Rf rs]
theorem Mq:∀ (rs:List Rg) (bs:List Int),∀ g∈Yd rs bs,g.2.2.length<=64
 | [],_,g,h=>by simp [Yd] at h
 | r::rs,bs,g,h=>by
   simp only [Yd,List.mem_cons] at h;rcases h with rfl|h
   · dsimp only;rw [Y7];exact Qq _
   · exact Mq rs _ g h
structure lG(q:Rq):Prop where
 n1:q.h.rs.length<=64
 n2:q.gs.length<=64
 n3:q.ps.length<=65
 n4:q.qs.length<=4096
 n5:∀ g∈q.gs,g.2.2.length<=64
theorem Q9(bs:List Int):lG (Zr bs).1:=by
 unfold Zr
 by_cases hc:YX bs=0
 · rw [if_pos hc];obtain ⟨h,n,er,hp⟩:∃ h n er,ZX bs=(h,n,er):=⟨_,_,_,rfl⟩;obtain ⟨_,hk,_⟩:=Ud hp hc;obtain ⟨_,_,h3,h4,h5⟩:=Lj hk;rw [hp];refine ⟨h3,?_,?_,?_,?_⟩
   · simp only [UF];rw [Rf];exact h3
   · simp only [UF];rw [Y7];omega
   · simp only [UF];rw [Wj];omega
   · exact fun g hg=>Mq _ _ g hg
 · rw [if_neg hc];exact ⟨by simp [Yx,Y5],by simp [Yx],by simp [Yx],by simp [Yx],fun g hg=>by simp [Yx] at hg⟩
def SkB(bs:List Int)(w:World)(e:Ending)(w':World):Prop:=∃ z:Int,e=.returned (.int .i64 z)/\(z=0\/z=1)/\(z=0->bs.length<=6000/\(Zr bs).1.qs.length<=100)/\Below w.heap.size w w'
section
variable (bs:List Int)(A:Option Addr)(c:Nat)(w:World)
variable (hs:Sl w w.heap.size A (ZY bs))(hby:By bs)
include hs hby
theorem pO:Calls prog 30 #[.slice A bs.length c] w (SkB bs w):=by
 by_cases hl:bs.length<=6000
 · have hD:=Oq bs A c w hs hby (by omega)
   have hqz:(Zr bs).2≠0->(Zr bs).1.qs.length<=100:=fun h=>by
    unfold Zr at h ⊢
    by_cases hc:YX bs=0
    · rw [if_pos hc] at h;exact absurd rfl h
    · rw [if_neg hc];simp [Yx]
   have hsm:=Q9 bs;obtain ⟨⟨q,er⟩,hr⟩:∃ r,Zr bs=r:=⟨_,rfl⟩;have HP:Hid (∀ e w',(∃ z:Int,e=.returned (.int .i64 z)/\(z=0\/z=1)/\(z=0->q.qs.length<=100)/\Below w.heap.size w w')->SkB bs w e w'):=hide fun e w' ⟨z,h1,h2,h3,h4⟩=>⟨z,h1,h2,fun h=>⟨hl,by rw [hr];exact h3 h⟩,h4⟩;rw [hr] at hD hqz hsm;dsimp only at hqz hsm;have HD:=hide hD;have lC:=hide hsm;have hl':¬ (6000:Int)<((bs.length:Nat):Int):=(by omega);clear hs hby hr hD hsm hl;go_enter func30,ntmps30;go_wp2_with fail;refine HD.out.mono ?_;rintro e w1 ⟨hrs,HA,hc,gs,GA,gc,PA,pc,QA,qc,rfl,hb1,hr1,_⟩;clear HD;unfold OC;dsimp only;obtain ⟨rb,hrb⟩:=eE w1.heap.size;obtain ⟨w2,hw2⟩:=eE (w1.alloc (.cells #[.int .i64 q.h.op,.int .i64 q.h.vs,.slice HA hrs.length hc,.int .i64 q.h.Z0,.slice GA gs.length gc,.slice PA q.ps.length pc,.slice QA q.qs.length qc] 55));have hb2:=bE hw2;have HB2:=Z9 hb1 hb2;have B2:Z6 w2 rb 55 #[.int .i64 q.h.op,.int .i64 q.h.vs,.slice HA hrs.length hc,.int .i64 q.h.Z0,.slice GA gs.length gc,.slice PA q.ps.length pc,.slice QA q.qs.length qc]:=(by rw [hw2,hrb];exact Z6.new _ _ _);have hgl:gs.length<=maxLen:=by
    have:=congrArg List.length hr1.gd;rw [List.length_map] at this;dsimp only at this;have:=lC.out.n2;unfold maxLen;omega
   have HS:=hide (ji q.h.op q.h.vs q.h.Z0 hrs HA hc gs GA gc q.ps PA pc q.qs QA qc w2 ((hr1.hg.below hb2).more hb2.size) hgl)
   by_cases he:er=0
   · subst he;have b0:w2.cell? ⟨rb,0,none⟩=some (.int .i64 q.h.op):=B2.q0 rfl;have b1:w2.cell? ⟨rb,1,none⟩=some (.int .i64 q.h.vs):=B2.q1 rfl;have b2:w2.cell? ⟨rb,2,none⟩=some (.slice HA hrs.length hc):=B2.q2 rfl;have b3:w2.cell? ⟨rb,3,none⟩=some (.int .i64 q.h.Z0):=B2.q3 rfl;have b4:w2.cell? ⟨rb,4,none⟩=some (.slice GA gs.length gc):=B2.q4 rfl;have b5:w2.cell? ⟨rb,5,none⟩=some (.slice PA q.ps.length pc):=B2.q5 rfl;have b6:w2.cell? ⟨rb,6,none⟩=some (.slice QA q.qs.length qc):=B2.q6 rfl;rw [hw2,hrb] at b0 b1 b2 b3 b4 b5 b6;clear B2 hb1 hb2 hr1 hgl hqz;go_wp2_with fail;rw [<- hw2];clear b0 b1 b2 b3 b4 b5 b6 hw2 hrb;refine HS.out.mono ?_;rintro e w3 ⟨z,rfl,hz,hT,hb3⟩;have HB3:=Z9 HB2 hb3;have HT:=hide hT;clear hT hb3 HS;go_wp2;go_ret;exact HP.out _ _ ⟨z,rfl,hz,fun h=>(HT.out h).2.2.2.1,HB3⟩
   · have hne:(er != 0)=true:=(by simpa using he);have hq:=hqz he;rw [hw2] at HB2;clear HS B2 hr1 he hqz hw2;go_wp2;go_ret;exact HP.out _ _ ⟨0,rfl,.inl rfl,fun _=>hq,HB2⟩
 · have hl':(6000:Int)<((bs.length:Nat):Int):=(by omega);go_enter func30,ntmps30;go_wp2;go_ret;exact ⟨1,rfl,.inr rfl,fun h=>by omega,Below.refl _ _⟩
end
end
section
open Go.RowKit Go.Shelf
theorem Hg.gsR{w:World}{hrs:List Rg}{HA:Option Addr}{gs:List Gr}{GA:Option Addr}{ps:List Pt}{PA:Option Addr}{pc:Nat}{qs:List ((Int × Int) × Int)}{QA:Option Addr}(h:Hg w hrs HA gs GA ps PA pc qs QA):xB w gs:=fun g hg=>⟨(h.gk g hg).1,(h.gk g hg).2,h.gj g hg⟩
theorem vV{w:World}{B g:Nat}{A:Option Addr}{recs:List (Int × Int)}(hs:Sl w B A (ZA recs))(C:Z6 w g 112 #[.int .i64 0,.int .i64 0,.slice none 0 0])(h:recs≠[]){x:Addr}(hx:A=some x):x.block≠g:=by
 intro e;cases recs with
 | nil=>exact h rfl
 | cons r l =>
   obtain ⟨b,off,hA,_,hc⟩:=hs.open_ (by simp [ZA]);rw [hx] at hA;cases hA;dsimp only at e;subst e;have h0:=hc 0 (.int .u64 r.1) rfl;rw [cell_of_row w b _ _ _ (0,0) C] at h0;rcases off with _|_|_|off
   · simp at h0
   · simp at h0
   · simp at h0
   · simp at h0
section
variable (op vs Z0:Int)(hrs:List Rg)(HA:Option Addr)(hc:Nat)(gs:List Gr)(GA:Option Addr)(gc:Nat)(ps:List Pt)(PA:Option Addr)(pc:Nat)(qs:List ((Int × Int) × Int))(QA:Option Addr)(qc:Nat)(w:World)
variable (hr:Hg w hrs HA gs GA ps PA pc qs QA)
include hr
theorem pq:Calls prog 61 #[.agg #[.int .i64 op,.int .i64 vs,.slice HA hrs.length hc,.int .i64 Z0,.slice GA gs.length gc,.slice PA ps.length pc,.slice QA qs.length qc]] w (Hf (Xo op vs hrs Z0 gs ps qs) w):=by
 obtain ⟨rb,hrb⟩:=eE w.heap.size;obtain ⟨w0,hw0⟩:=eE ((w.alloc (.cells #[.int .i64 op,.int .i64 vs,.slice HA hrs.length hc,.int .i64 Z0,.slice GA gs.length gc,.slice PA ps.length pc,.slice QA qs.length qc] 55)).alloc (.cells #[.int .i64 0,.int .i64 0,.slice none 0 0] 112));have hb0:=bF hw0;have B0:Z6 w0 rb 55 #[.int .i64 op,.int .i64 vs,.slice HA hrs.length hc,.int .i64 Z0,.slice GA gs.length gc,.slice PA ps.length pc,.slice QA qs.length qc]:=by rw [hw0,hrb];exact (Z6.new _ _ _).alloc _
 have C0:Z6 w0 (rb+1) 112 #[.int .i64 0,.int .i64 0,.slice none 0 0]:=by rw [hw0,hrb];exact Z6.new2 _ _ _ _
 have h0:=hr.below hb0;have kR:=hide (Ov op vs Z0 hrs HA hc gs GA gc ps PA pc qs QA qc w0 h0.hh h0.hg h0.gk h0.hp h0.hq hr.qu);have qz:=hide (fun (w':World) (hb:Below w.heap.size w w')=>zqq gs GA gc qs QA qc w' (hr.below hb).hg (hr.below hb).gsR (hr.below hb).hq hr.qj hr.qu);have NG:=hide (fun (w':World) (hb:Below w.heap.size w w')=>Gh op vs Z0 hrs HA hc gs GA gc ps PA pc qs QA qc w' (hr.below hb).hh (hr.below hb).hg (hr.below hb).gsR hr.pj (hr.below hb).hp (hr.below hb).hq hr.qu hr.cap);have HH:Hid (Xo op vs hrs Z0 gs ps qs=if (ZK op vs hrs Z0 gs ps qs).2≠0 then (Xk,(ZK op vs hrs Z0 gs ps qs).2) else if op=5 then YW gs qs else (⟨Yu op gs ps,0,[]⟩,0)):=hide rfl;have HV:Hid (TA op vs hrs Z0 gs ps qs=if (ZK op vs hrs Z0 gs ps qs).2≠0 then (0,(ZK op vs hrs Z0 gs ps qs).2) else if op=5 then (0,2) else (Yu op gs ps,0)):=hide rfl;obtain ⟨⟨bs,err⟩,hE⟩:∃ E,E=ZK op vs hrs Z0 gs ps qs:=⟨_,rfl⟩;rw [<- hE] at kR HH HV;have q0:=B0.q0 rfl;have q1:=B0.q1 rfl;have q2:=B0.q2 rfl;have q3:=B0.q3 rfl;have q4:=B0.q4 rfl;have q5:=B0.q5 rfl;have q6:=B0.q6 rfl;have HB0:=hide hb0;have HBQ:=hide B0;have Qz:=hide C0;have hrw:w.heap.size<=rb+1:=by omega
 clear hE h0 hr hb0 B0 C0;generalize hrs.length=hn at *;generalize gs.length=gn at *;generalize ps.length=pn at *;generalize qs.length=qn at *;go_enter func61,ntmps61;rw [hw0,hrb] at q0 q1 q2 q3 q4 q5 q6;go_wp2_with fail;rw [<- hw0,<- hrb];have Eo:=hide hrb;clear hw0 hrb q0 q1 q2 q3 q4 q5 q6;refine kR.out.mono ?_;rintro e w1 ⟨v1,rfl,ZL,hb1⟩;have B1:=HBQ.out.step hb1;have C1:=Qz.out.step hb1;have hbw:=Z9 HB0.out hb1;have q0:=B1.q0 rfl;have q1:=B1.q1 rfl;have q2:=B1.q2 rfl;have q3:=B1.q3 rfl;have q4:=B1.q4 rfl;have q5:=B1.q5 rfl;have q6:=B1.q6 rfl;have z0:=C1.q0 rfl;have z1:=C1.q1 rfl;have z2:=C1.q2 rfl;have y0:=C1.frozen 0;have y1:=C1.frozen 1;have y2:=C1.frozen 2;have Ru:=hide C1;have Bg:=hide hbw;have Rv:Hid (rb+1<w1.heap.size):=hide C1.lt;clear ZL B1 C1 hb1 hbw HBQ Qz HB0;dsimp only
 by_cases he:err=0
 · subst he
   by_cases h5:op=5
   · subst h5;have HE:Hid (Xo 5 vs hrs Z0 gs ps qs=YW gs qs):=hide (by rw [HH.out];simp);have HR1:=hide (qz.out w1 Bg.out);clear HH HV NG qz;go_wp2_with fail;refine HR1.out.mono ?_;rintro e w2 ⟨RA,rc,rfl,hb2,hs2⟩;have C2:=Ru.out.step hb2;have hbw2:=Z9 Bg.out hb2;have hne:(YW gs qs).1.recs≠[]->∀ x,RA=some x->x.block≠rb+1\/True:=fun _ _ _=>.inr trivial;clear q0 q1 q2 q3 q4 q5 q6 z0 z1 z2 y0 y1 y2 hne;have z0:=C2.q0 rfl;have z1:=C2.q1 rfl;have z2:=C2.q2 rfl;have y0:=C2.frozen 0;have y1:=C2.frozen 1;have y2:=C2.frozen 2;obtain ⟨⟨⟨val,cnt,recs⟩,er⟩,hba⟩:∃ r,r=YW gs qs:=⟨_,rfl⟩;rw [<- hba] at hs2 HE ⊢;dsimp only at hs2 ⊢;have HS2:=hide hs2;have OD:=hide C2;have OG:Hid (recs≠[]->∀ x,RA=some x->x.block≠rb+1):=hide fun h x hx=>vV hs2 C2 h hx;clear hba hs2 C2 hb2 Ru HR1;go_wp2;refine bodyPost_ret (XP (p:=2) (u:=3) rfl rfl (((OD.out.set 0 _).set 1 _).set 2 _)) rfl ?_;exact XM HE.out hbw2 hrw HS2.out OG.out
   · have HE:Hid (Xo op vs hrs Z0 gs ps qs=(⟨Yu op gs ps,0,[]⟩,0)):=hide (by rw [HH.out];simp [h5]);have HVE:Hid (TA op vs hrs Z0 gs ps qs=(Yu op gs ps,0)):=hide (by rw [HV.out];simp [h5]);have HR1:=NG.out w1 Bg.out;rw [HVE.out] at HR1;have HR2:=hide HR1;clear HR1 HH HV NG qz HVE;generalize Yu op gs ps=av at *;go_wp2_with fail;refine HR2.out.mono ?_;rintro e w2 ⟨rfl,hb2⟩;have C2:=Ru.out.step hb2;have hbw2:=Z9 Bg.out hb2;clear q0 q1 q2 q3 q4 q5 q6 z0 z1 z2 y0 y1 y2;have z0:=C2.q0 rfl;have z1:=C2.q1 rfl;have z2:=C2.q2 rfl;have y0:=C2.frozen 0;have y1:=C2.frozen 1;have y2:=C2.frozen 2;have OD:=hide C2;clear C2 hb2 Ru HR2;go_wp2;refine bodyPost_ret (XP (p:=2) (u:=3) rfl rfl (((OD.out.set 0 _).set 1 _).set 2 _)) rfl ?_;exact XM (recs:=[]) HE.out hbw2 hrw (Sl.nil _ _ _) (fun h=>absurd rfl h)
 · have heb:(err != 0)=true:=bne_iff_ne.2 he;have HE:Hid (Xo op vs hrs Z0 gs ps qs=(⟨0,0,[]⟩,err)):=hide (by rw [HH.out];simp [he];rfl);clear HH HV NG qz;go_wp2;refine bodyPost_ret (XP (p:=2) (u:=3) rfl rfl (((Ru.out.set 0 _).set 1 _).set 2 _)) rfl ?_;exact XM (recs:=[]) HE.out Bg.out hrw (Sl.nil _ _ _) (fun h=>absurd rfl h)
end
end
section
open Go.RowKit Go.Shelf
theorem o8{w:World}{q:Rq}{bs:List Int}{hrs:List Rg}{HA:Option Addr}{gs:List Gr}{GA PA QA:Option Addr}{pc:Nat}(hby:By bs)(hd:Zr bs=(q,0))(h:WG w w.heap.size q hrs HA gs GA PA QA)(hcap:q.ps.length<=pc):Hg w hrs HA gs GA q.ps PA pc q.qs QA:=by
 obtain ⟨dj1,Al,dj3,_⟩:=Ue hby hd;have hsm:=Q9 bs;rw [hd] at hsm;dsimp only at hsm;have hl1:hrs.length<=64:=by
  have:=congrArg List.length h.hk;rw [List.length_map,List.length_map] at this;have:=hsm.n1;omega
 have hl2:gs.length<=64:=by
  have:=congrArg List.length h.gd;rw [List.length_map] at this;have:=hsm.n2;omega
 refine ⟨h.hh,by unfold maxLen;omega,h.hg,by unfold maxLen;omega,h.gk,fun g hg=>?_,h.hp,dj1,hcap,h.hq,fun x hx=>(Al x hx).1,fun x hx=>(Al x hx).2⟩;have:QM g∈q.gs:=by rw [<- h.gd];exact List.mem_map.2 ⟨g,hg,rfl⟩
 exact (dj3 _ this).1
section
variable (bs:List Int)(A:Option Addr)(c:Nat)(w:World)
variable (hs:Sl w w.heap.size A (ZY bs))(hby:By bs)(hmax:bs.length<=300000)
include hs hby hmax
theorem je:Calls prog 27 #[.slice A bs.length c] w (Gives (YZ bs) (YZ bs).length w):=by
 have HD:=hide (Oq bs A c w hs hby hmax);have hcb:=OW bs
 by_cases hc:YX bs=0
 · obtain ⟨q,hd⟩:∃ q,Zr bs=(q,0):=⟨_,by unfold Zr;rw [if_pos hc]⟩;have hsv:YZ bs=Zp q.h.op (YA q).val (YA q).cnt (YA q).recs:=(by unfold YZ;rw [hd,if_neg (by simp)]);have zrz:=hide (fun (w':World) (hrs:List Rg) (HA:Option Addr) (gs:List Gr) (GA PA QA:Option Addr) (pc:Nat) (h:WG w' w'.heap.size q hrs HA gs GA PA QA) (hcap:q.ps.length<=pc)=>o8 hby hd h hcap)
   have UQ:Hid (∀ hrs gs,hrs.map Rg.key=q.h.rs.map Rg.key->gs.map QM=q.gs->(∀ g∈gs,g.1.n=g.2.length)->Xo q.h.op q.h.vs hrs q.h.Z0 gs q.ps q.qs=(YA q,0)/\Yh q.h.op q.h.vs hrs q.h.Z0 (YA q).val (YA q).cnt (YA q).recs=(YZ bs,0)):=hide (fun hrs gs hk hgd hn=>by
    obtain ⟨_,Al,_,_⟩:=Ue hby hd;obtain ⟨k1,_,k3,k4⟩:=RJ (q:=q) (by rw [MR hby hd hk hgd hn]) hn (fun x hx=>(Al x hx).2) rfl hgd.symm rfl rfl;refine ⟨k1,?_⟩;unfold Yh
    rw [if_neg (by simpa using k4),if_neg (by simp [k3]),hsv])
   have HU:Hid ((∀ r∈(YA q).recs,Vo r.1/\Vo r.2)/\(YA q).recs.length<=maxLen):=hide (by
    obtain ⟨_,Al,_,z⟩:=Ue hby hd;constructor
    · intro r hr;unfold YA at hr;split at hr
      · unfold YW at hr;split at hr
        · simp [Xk] at hr
        · exact Ho (Ui (q.gs.map cg) (fun x hx=>(Al x hx).2) r ((Xe Zm _).mem_iff.1 hr))
      · simp at hr
    · have hn:∀ g∈q.gs.map cg,g.1.n=g.2.length:=fun g hg=>by
       obtain ⟨x,_,rfl⟩:=List.mem_map.1 hg;rfl
      obtain ⟨_,_,k3,_⟩:=RJ (q:=q) (by rw [MR hby hd (hrs:=q.h.rs) (gs:=q.gs.map cg) rfl (Ib _) hn]) hn (fun x hx=>(Al x hx).2) rfl (Ib _).symm rfl rfl;obtain ⟨_,_,_,_,z5,z6,tO,hpn,_⟩:=Zu z;have hp0:0<=q.h.Z0/\q.h.Z0<=4096:=by
       by_cases h5:q.h.op=5
       · have:=tO h5;omega
       · have:=hpn h5;omega
      have hia:=VH k3 hp0.1;unfold maxLen
      omega)
   rw [hd] at HD;obtain ⟨SB,hSB⟩:=eE (YZ bs);rw [<- hSB] at UQ ⊢;obtain ⟨⟨val,cnt,recs⟩,hqa⟩:∃ a,a=YA q:=⟨_,rfl⟩;rw [<- hqa] at UQ HU;clear hs hby hmax hcb hc hd hsv hSB hqa;obtain ⟨⟨op,vs,rs0,Z0⟩,gds,ps,qs⟩:=q
   try dsimp only at *
   go_enter func27,ntmps27;go_wp2_with fail;refine HD.out.mono ?_;rintro e w1 ⟨hrs,HA,hc,gs,GA,gc,PA,pc,QA,qc,rfl,hb1,hr1,hcap⟩;clear HD;unfold OC
   try dsimp only at hcap
   try dsimp only
   obtain ⟨k1,k2⟩:=UQ.out hrs gs hr1.hk hr1.gd (fun g hg=>(hr1.gk g hg).1);have CO:=zrz.out w1 hrs HA gs GA PA QA pc hr1 hcap
   try dsimp only at CO
   obtain ⟨rb,hrb⟩:=eE w1.heap.size;obtain ⟨w2,hw2⟩:=eE (w1.alloc (.cells #[.int .i64 op,.int .i64 vs,.slice HA hrs.length hc,.int .i64 Z0,.slice GA gs.length gc,.slice PA ps.length pc,.slice QA qs.length qc] 55));have hb2:=bE hw2;have HB2:=Z9 hb1 hb2;have B2:Z6 w2 rb 55 #[.int .i64 op,.int .i64 vs,.slice HA hrs.length hc,.int .i64 Z0,.slice GA gs.length gc,.slice PA ps.length pc,.slice QA qs.length qc]:=(by rw [hw2,hrb];exact Z6.new _ _ _);have h2:=CO.below hb2;have HRH:=pq op vs Z0 hrs HA hc gs GA gc ps PA pc qs QA qc w2 h2;rw [k1] at HRH;have HH:=hide HRH;have HRS:=hide k2;have HHS:=hide h2.hh;have b0:w2.cell? ⟨rb,0,none⟩=some (.int .i64 op):=B2.q0 rfl;have b1:w2.cell? ⟨rb,1,none⟩=some (.int .i64 vs):=B2.q1 rfl;have b2:w2.cell? ⟨rb,2,none⟩=some (.slice HA hrs.length hc):=B2.q2 rfl;have b3:w2.cell? ⟨rb,3,none⟩=some (.int .i64 Z0):=B2.q3 rfl;have b4:w2.cell? ⟨rb,4,none⟩=some (.slice GA gs.length gc):=B2.q4 rfl;have b5:w2.cell? ⟨rb,5,none⟩=some (.slice PA ps.length pc):=B2.q5 rfl;have b6:w2.cell? ⟨rb,6,none⟩=some (.slice QA qs.length qc):=B2.q6 rfl;rw [hw2,hrb] at b0 b1 b2 b3 b4 b5 b6;clear hb1 hr1 hcap k1 k2 CO hb2 h2 HRH zrz UQ;go_wp2_with fail;rw [<- hw2,<- hrb];clear hw2 hrb b0 b1 b2 b3 b4 b5 b6;refine HH.out.mono ?_;rintro e w3 ⟨RA,rc,rfl,hb3,hs3⟩;dsimp only at hs3 ⊢;have HB3:=Z9 HB2 hb3;have B3:=B2.step hb3;obtain ⟨ab,hab⟩:=eE w3.heap.size;obtain ⟨w4,hw4⟩:=eE (w3.alloc (.cells #[.int .i64 val,.int .i64 cnt,.slice RA recs.length rc] 112));have hb4:=bE hw4;have KX:=Z9 HB3 hb4;have B4:=B3.step hb4;have A4:Z6 w4 ab 112 #[.int .i64 val,.int .i64 cnt,.slice RA recs.length rc]:=(by rw [hw4,hab];exact Z6.new _ _ _);have b0:w4.cell? ⟨rb,0,none⟩=some (.int .i64 op):=B4.q0 rfl;have b1:w4.cell? ⟨rb,1,none⟩=some (.int .i64 vs):=B4.q1 rfl;have b2:w4.cell? ⟨rb,2,none⟩=some (.slice HA hrs.length hc):=B4.q2 rfl;have b3:w4.cell? ⟨rb,3,none⟩=some (.int .i64 Z0):=B4.q3 rfl;have a0:w4.cell? ⟨ab,0,none⟩=some (.int .i64 val):=A4.q0 rfl;have a1:w4.cell? ⟨ab,1,none⟩=some (.int .i64 cnt):=A4.q1 rfl;have a2:w4.cell? ⟨ab,2,none⟩=some (.slice RA recs.length rc):=A4.q2 rfl;rw [hw4] at b0 b1 b2 b3 a0 a1 a2;rw [hab] at a0 a1 a2;have RS:=Jk op vs Z0 hrs HA hc val cnt recs RA rc w4 (((HHS.out.below hb3).more hb3.size).below hb4 |>.more hb4.size) ((hs3.below hb4).more hb4.size) HU.out.2 HU.out.1;rw [HRS.out] at RS;have HR4:=hide RS;clear RS hs3 hb3 hb4 B2 B3 B4 A4 HH HHS HRS HU hab;go_wp2_with fail;rw [<- hw4];clear hw4 b0 b1 b2 b3 a0 a1 a2;refine HR4.out.mono ?_;rintro e w5 ⟨v,rfl,hv,hb5⟩;dsimp only at hv ⊢;obtain ⟨UA,uc,rfl,huc⟩:=Zl hv;have hsu:=Sl.Xw hv;have kM:=Z9 KX hb5;clear hv HR4;go_wp2;go_ret;exact ⟨UA,uc,rfl,kM,hsu⟩
 · have hd:Zr bs=(Yx,YX bs):=(by unfold Zr;rw [if_neg hc]);rw [Kr hc];rw [hd] at HD;obtain ⟨E,hE⟩:=eE (YX bs);rw [<- hE] at HD hc hcb ⊢;have hne:(E != 0)=true:=(by simpa using hc);have hwv:IntKind.u8.wrap E=E:=(by rw [IntKind.wrap_u8];omega);clear hs hby hmax hd hE;go_enter func27,ntmps27;go_wp2_with fail;refine HD.out.mono ?_;rintro e w1 ⟨hrs,HA,hc2,gs,GA,gc,PA,pc,QA,qc,rfl,hb1,hr1,hcap⟩;unfold OC;dsimp only;clear HD hr1 hcap;go_wp2;go_ret;refine ⟨_,_,rfl,Z7 (Z7 hb1 _) _,?_⟩;have h:=slb (xs:=ZY [E]) (Z6.new (w1.alloc (.cells #[.int .i64 Yx.h.op,.int .i64 Yx.h.vs,.slice HA hrs.length hc2,.int .i64 Yx.h.Z0,.slice GA gs.length gc,.slice PA Yx.ps.length pc,.slice QA Yx.qs.length qc] 55)) 5 _);simp only [World.size_alloc] at h ⊢;exact h
end
end
end Go.Proofs.YthnenedoblncjaaGreatDoor