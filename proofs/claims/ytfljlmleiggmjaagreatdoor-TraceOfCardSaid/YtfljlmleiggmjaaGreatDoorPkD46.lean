/- Alive21 Req21 SkipB21 RefHandle21 RefServe21 -/
import Derived.Test.YtfljlmleiggmjaaGreatDoorPkD12
import Derived.Test.YtfljlmleiggmjaaGreatDoorPkD13
import Derived.Test.YtfljlmleiggmjaaGreatDoorPkD38
import Derived.Test.YtfljlmleiggmjaaGreatDoorPkD44
import Derived.Test.YtfljlmleiggmjaaGreatDoorPkD45
set_option maxRecDepth 1000000
set_option maxHeartbeats 8000000
namespace Go.Proofs.YtfljlmleiggmjaaGreatDoor
open Go.Proofs.Tryz
section
open Go.RowKit Go.Shelf
theorem slb{w:World}{g:Nat}{t:TypeId}{xs:List Value}(h:Z6 w g t xs.toArray):Sl w w.heap.size (some ⟨g,0,none⟩) xs :=
 Sl.mk h.lt fun j u hu=>by rw [Nat.zero_add];exact h.cell (by simpa using hu)
def Gives(bs:List Int)(n:Nat)(w:World)(e:Ending)(w':World):Prop:=∃ A c,e=.returned (.slice A n c)/\Below w.heap.size w w'/\Sl w' w'.heap.size A (ZY bs)
end
section
open Go.RowKit Go.Shelf
structure Fu(w:World)(hrs:List Rg)(HA:Option Addr)(gs:List Gr)(GA:Option Addr)(ps:List Pt)(PA:Option Addr)(pc:Nat)(qs:List ((Int × Int) × Int))(QA:Option Addr):Prop where
 hh:Sl w w.heap.size HA (rgCells hrs)
 hn:hrs.length<=maxLen
 hg:Sl w w.heap.size GA (rgCells (gs.map (·.1)))
 gn:gs.length<=maxLen
 gk:uh w w.heap.size gs
 gj:∀ g∈gs,Tq g.2
 hp:Sl w w.heap.size PA (Zc ps)
 pj:Tq ps
 cap:ps.length<=pc
 hq:Sl w w.heap.size QA (Vs qs)
 qj:∀ q∈qs,PJ q.1
 qu:∀ q∈qs,Uf q.2
section
variable {w:World}{hrs:List Rg}{HA:Option Addr}{gs:List Gr}{GA:Option Addr}{ps:List Pt}{PA:Option Addr}{pc:Nat}{qs:List ((Int × Int) × Int)}{QA:Option Addr}
theorem Fu.below{w':World}(h:Fu w hrs HA gs GA ps PA pc qs QA)(hb:Below w.heap.size w w'):Fu w' hrs HA gs GA ps PA pc qs QA :=
 ⟨(h.hh.below hb).more hb.size,h.hn,(h.hg.below hb).more hb.size,h.gn,fun g hg=>⟨(h.gk g hg).1,((h.gk g hg).2.below hb).more hb.size⟩,h.gj,(h.hp.below hb).more hb.size,h.pj,h.cap,(h.hq.below hb).more hb.size,h.qj,h.qu⟩
theorem Fu.len(h:Fu w hrs HA gs GA ps PA pc qs QA):∀ g∈gs,g.1.n=g.2.length:=fun g hg=>(h.gk g hg).1
end
theorem By.append{a b:List Int}(ha:By a)(hb:By b):By (a++b):=fun x hx=>by
 rcases List.mem_append.1 hx with h|h
 · exact ha x h
 · exact hb x h
end
section
open Go.RowKit Go.Shelf
theorem Ql:∀ (rs:List Rg) (bs:List Int),(XK rs bs).length=rs.length
 | [],_=>rfl
 | r::rs,bs=>by simp [XK,Ql rs]
theorem KU:∀ (rs:List Rg) (bs:List Int),∀ g∈XK rs bs,g.2.2.length<=64
 | [],_,g,h=>by simp [XK] at h
 | r::rs,bs,g,h=>by
   simp only [XK,List.mem_cons] at h;rcases h with rfl|h
   · dsimp only;rw [YT];exact Ph _
   · exact KU rs _ g h
structure gP(q:Rq):Prop where
 n1:q.h.rs.length<=64
 n2:q.gs.length<=64
 n3:q.ps.length<=65
 n4:q.qs.length<=4096
 n5:∀ g∈q.gs,g.2.2.length<=64
theorem Qf(bs:List Int):gP (Zz bs).1:=by
 unfold Zz
 by_cases hc:Zb bs=0
 · rw [if_pos hc];obtain ⟨h,n,er,hp⟩:∃ h n er,ZW bs=(h,n,er):=⟨_,_,_,rfl⟩;obtain ⟨_,hk,_⟩:=Tx hp hc;obtain ⟨_,_,h3,h4,h5⟩:=J5 hk;rw [hp];refine ⟨h3,?_,?_,?_,?_⟩
   · simp only [Uc];rw [Ql];exact h3
   · simp only [Uc];rw [YT];omega
   · simp only [Uc];rw [VI];omega
   · exact fun g hg=>KU _ _ g hg
 · rw [if_neg hc];exact ⟨by simp [Yk,YR],by simp [Yk],by simp [Yk],by simp [Yk],fun g hg=>by simp [Yk] at hg⟩
def SkB(bs:List Int)(w:World)(e:Ending)(w':World):Prop:=∃ z:Int,e=.returned (.int .i64 z)/\(z=0\/z=1)/\(z=0->bs.length<=6000/\(Zz bs).1.qs.length<=100)/\Below w.heap.size w w'
section
variable (bs:List Int)(A:Option Addr)(c:Nat)(w:World)
variable (hs:Sl w w.heap.size A (ZY bs))(hby:By bs)
include hs hby
theorem lJ:Calls prog 16 #[.slice A bs.length c] w (SkB bs w):=by
 by_cases hl:bs.length<=6000
 · have hD:=M8 bs A c w hs hby (by omega)
   have hqz:(Zz bs).2≠0->(Zz bs).1.qs.length<=100:=fun h=>by
    unfold Zz at h ⊢
    by_cases hc:Zb bs=0
    · rw [if_pos hc] at h;exact absurd rfl h
    · rw [if_neg hc];simp [Yk]
   have hsm:=Qf bs;obtain ⟨⟨q,er⟩,hr⟩:∃ r,Zz bs=r:=⟨_,rfl⟩;have HP:Hid (∀ e w',(∃ z:Int,e=.returned (.int .i64 z)/\(z=0\/z=1)/\(z=0->q.qs.length<=100)/\Below w.heap.size w w')->SkB bs w e w'):=hide fun e w' ⟨z,h1,h2,h3,h4⟩=>⟨z,h1,h2,fun h=>⟨hl,by rw [hr];exact h3 h⟩,h4⟩;rw [hr] at hD hqz hsm;dsimp only at hqz hsm;have HD:=hide hD;have gK:=hide hsm;have hl':¬ (6000:Int)<((bs.length:Nat):Int):=(by omega);clear hs hby hr hD hsm hl;go_enter func16,ntmps16;go_wp2_with fail;refine HD.out.mono ?_;rintro e w1 ⟨hrs,HA,hc,gs,GA,gc,PA,pc,QA,qc,rfl,hb1,hr1,_⟩;clear HD;unfold Nj;dsimp only;obtain ⟨rb,hrb⟩:=eE w1.heap.size;obtain ⟨w2,hw2⟩:=eE (w1.alloc (.cells #[.int .i64 q.h.op,.int .i64 q.h.vs,.slice HA hrs.length hc,.int .i64 q.h.Z0,.slice GA gs.length gc,.slice PA q.ps.length pc,.slice QA q.qs.length qc] 73));have hb2:=bE hw2;have HB2:=Z9 hb1 hb2;have B2:Z6 w2 rb 73 #[.int .i64 q.h.op,.int .i64 q.h.vs,.slice HA hrs.length hc,.int .i64 q.h.Z0,.slice GA gs.length gc,.slice PA q.ps.length pc,.slice QA q.qs.length qc]:=(by rw [hw2,hrb];exact Z6.new _ _ _);have hgl:gs.length<=maxLen:=by
    have:=congrArg List.length hr1.gd;rw [List.length_map] at this;dsimp only at this;have:=gK.out.n2;unfold maxLen;omega
   have HS:=hide (bU q.h.op q.h.vs q.h.Z0 hrs HA hc gs GA gc q.ps PA pc q.qs QA qc w2 ((hr1.hg.below hb2).more hb2.size) hgl)
   by_cases he:er=0
   · subst he;have b0:w2.cell? ⟨rb,0,none⟩=some (.int .i64 q.h.op):=B2.q0 rfl;have b1:w2.cell? ⟨rb,1,none⟩=some (.int .i64 q.h.vs):=B2.q1 rfl;have b2:w2.cell? ⟨rb,2,none⟩=some (.slice HA hrs.length hc):=B2.q2 rfl;have b3:w2.cell? ⟨rb,3,none⟩=some (.int .i64 q.h.Z0):=B2.q3 rfl;have b4:w2.cell? ⟨rb,4,none⟩=some (.slice GA gs.length gc):=B2.q4 rfl;have b5:w2.cell? ⟨rb,5,none⟩=some (.slice PA q.ps.length pc):=B2.q5 rfl;have b6:w2.cell? ⟨rb,6,none⟩=some (.slice QA q.qs.length qc):=B2.q6 rfl;rw [hw2,hrb] at b0 b1 b2 b3 b4 b5 b6;clear B2 hb1 hb2 hr1 hgl hqz;go_wp2_with fail;rw [<- hw2];clear b0 b1 b2 b3 b4 b5 b6 hw2 hrb;refine HS.out.mono ?_;rintro e w3 ⟨z,rfl,hz,hT,hb3⟩;have HB3:=Z9 HB2 hb3;have HT:=hide hT;clear hT hb3 HS;go_wp2;go_ret;exact HP.out _ _ ⟨z,rfl,hz,fun h=>(HT.out h).2.2.2.1,HB3⟩
   · have hne:(er != 0)=true:=(by simpa using he);have hq:=hqz he;rw [hw2] at HB2;clear HS B2 hr1 he hqz hw2;go_wp2;go_ret;exact HP.out _ _ ⟨0,rfl,.inl rfl,fun _=>hq,HB2⟩
 · have hl':(6000:Int)<((bs.length:Nat):Int):=(by omega);go_enter func16,ntmps16;go_wp2;go_ret;exact ⟨1,rfl,.inr rfl,fun h=>by omega,Below.refl _ _⟩
end
end
section
open Go.RowKit Go.Shelf
theorem Fu.gsR{w:World}{hrs:List Rg}{HA:Option Addr}{gs:List Gr}{GA:Option Addr}{ps:List Pt}{PA:Option Addr}{pc:Nat}{qs:List ((Int × Int) × Int)}{QA:Option Addr}(h:Fu w hrs HA gs GA ps PA pc qs QA):uj w gs:=fun g hg=>⟨(h.gk g hg).1,(h.gk g hg).2,h.gj g hg⟩
theorem rU{w:World}{B g:Nat}{A:Option Addr}{recs:List (Int × Int)}(hs:Sl w B A (Zt recs))(C:Z6 w g 91 #[.int .i64 0,.int .i64 0,.slice none 0 0])(h:recs≠[]){x:Addr}(hx:A=some x):x.block≠g:=by
 intro e;cases recs with
 | nil=>exact h rfl
 | cons r l =>
   obtain ⟨b,off,hA,_,hc⟩:=hs.open_ (by simp [Zt]);rw [hx] at hA;cases hA;dsimp only at e;subst e;have h0:=hc 0 (.int .u64 r.1) rfl;rw [cell_of_row w b _ _ _ (0,0) C] at h0;rcases off with _|_|_|off
   · simp at h0
   · simp at h0
   · simp at h0
   · simp at h0
section
variable (op vs Z0:Int)(hrs:List Rg)(HA:Option Addr)(hc:Nat)(gs:List Gr)(GA:Option Addr)(gc:Nat)(ps:List Pt)(PA:Option Addr)(pc:Nat)(qs:List ((Int × Int) × Int))(QA:Option Addr)(qc:Nat)(w:World)
variable (hr:Fu w hrs HA gs GA ps PA pc qs QA)
include hr
theorem kX:Calls prog 50 #[.agg #[.int .i64 op,.int .i64 vs,.slice HA hrs.length hc,.int .i64 Z0,.slice GA gs.length gc,.slice PA ps.length pc,.slice QA qs.length qc]] w (Fq (WT op vs hrs Z0 gs ps qs) w):=by
 obtain ⟨rb,hrb⟩:=eE w.heap.size;obtain ⟨w0,hw0⟩:=eE ((w.alloc (.cells #[.int .i64 op,.int .i64 vs,.slice HA hrs.length hc,.int .i64 Z0,.slice GA gs.length gc,.slice PA ps.length pc,.slice QA qs.length qc] 73)).alloc (.cells #[.int .i64 0,.int .i64 0,.slice none 0 0] 91));have hb0:=bF hw0;have B0:Z6 w0 rb 73 #[.int .i64 op,.int .i64 vs,.slice HA hrs.length hc,.int .i64 Z0,.slice GA gs.length gc,.slice PA ps.length pc,.slice QA qs.length qc]:=by rw [hw0,hrb];exact (Z6.new _ _ _).alloc _
 have C0:Z6 w0 (rb+1) 91 #[.int .i64 0,.int .i64 0,.slice none 0 0]:=by rw [hw0,hrb];exact Z6.new2 _ _ _ _
 have h0:=hr.below hb0;have fT:=hide (Na op vs Z0 hrs HA hc gs GA gc ps PA pc qs QA qc w0 h0.hh h0.hg h0.gk h0.hp h0.hq hr.qu);have mh:=hide (fun (w':World) (hb:Below w.heap.size w w')=>zlg gs GA gc qs QA qc w' (hr.below hb).hg (hr.below hb).gsR (hr.below hb).hq hr.qj hr.qu);have NY:=hide (fun (w':World) (hb:Below w.heap.size w w')=>Eo op vs Z0 hrs HA hc gs GA gc ps PA pc qs QA qc w' (hr.below hb).hh (hr.below hb).hg (hr.below hb).gsR hr.pj (hr.below hb).hp (hr.below hb).hq hr.qu hr.cap);have HH:Hid (WT op vs hrs Z0 gs ps qs=if (ZG op vs hrs Z0 gs ps qs).2≠0 then (Wq,(ZG op vs hrs Z0 gs ps qs).2) else if op=5 then YL gs qs else (⟨Yd op gs ps,0,[]⟩,0)):=hide rfl;have HV:Hid (Sz op vs hrs Z0 gs ps qs=if (ZG op vs hrs Z0 gs ps qs).2≠0 then (0,(ZG op vs hrs Z0 gs ps qs).2) else if op=5 then (0,2) else (Yd op gs ps,0)):=hide rfl;obtain ⟨⟨bs,err⟩,hE⟩:∃ E,E=ZG op vs hrs Z0 gs ps qs:=⟨_,rfl⟩;rw [<- hE] at fT HH HV;have q0:=B0.q0 rfl;have q1:=B0.q1 rfl;have q2:=B0.q2 rfl;have q3:=B0.q3 rfl;have q4:=B0.q4 rfl;have q5:=B0.q5 rfl;have q6:=B0.q6 rfl;have HB0:=hide hb0;have HBQ:=hide B0;have Qo:=hide C0;have hrw:w.heap.size<=rb+1:=by omega
 clear hE h0 hr hb0 B0 C0;generalize hrs.length=hn at *;generalize gs.length=gn at *;generalize ps.length=pn at *;generalize qs.length=qn at *;go_enter func50,ntmps50;rw [hw0,hrb] at q0 q1 q2 q3 q4 q5 q6;go_wp2_with fail;rw [<- hw0,<- hrb];have JL:=hide hrb;clear hw0 hrb q0 q1 q2 q3 q4 q5 q6;refine fT.out.mono ?_;rintro e w1 ⟨v1,rfl,ZQ,hb1⟩;have B1:=HBQ.out.step hb1;have C1:=Qo.out.step hb1;have hbw:=Z9 HB0.out hb1;have q0:=B1.q0 rfl;have q1:=B1.q1 rfl;have q2:=B1.q2 rfl;have q3:=B1.q3 rfl;have q4:=B1.q4 rfl;have q5:=B1.q5 rfl;have q6:=B1.q6 rfl;have z0:=C1.q0 rfl;have z1:=C1.q1 rfl;have z2:=C1.q2 rfl;have y0:=C1.frozen 0;have y1:=C1.frozen 1;have y2:=C1.frozen 2;have Tm:=hide C1;have y9:=hide hbw;have Oc:Hid (rb+1<w1.heap.size):=hide C1.lt;clear ZQ B1 C1 hb1 hbw HBQ Qo HB0;dsimp only
 by_cases he:err=0
 · subst he
   by_cases h5:op=5
   · subst h5;have HE:Hid (WT 5 vs hrs Z0 gs ps qs=YL gs qs):=hide (by rw [HH.out];simp);have HR1:=hide (mh.out w1 y9.out);clear HH HV NY mh;go_wp2_with fail;refine HR1.out.mono ?_;rintro e w2 ⟨RA,rc,rfl,hb2,hs2⟩;have C2:=Tm.out.step hb2;have hbw2:=Z9 y9.out hb2;have hne:(YL gs qs).1.recs≠[]->∀ x,RA=some x->x.block≠rb+1\/True:=fun _ _ _=>.inr trivial;clear q0 q1 q2 q3 q4 q5 q6 z0 z1 z2 y0 y1 y2 hne;have z0:=C2.q0 rfl;have z1:=C2.q1 rfl;have z2:=C2.q2 rfl;have y0:=C2.frozen 0;have y1:=C2.frozen 1;have y2:=C2.frozen 2;obtain ⟨⟨⟨val,cnt,recs⟩,er⟩,hba⟩:∃ r,r=YL gs qs:=⟨_,rfl⟩;rw [<- hba] at hs2 HE ⊢;dsimp only at hs2 ⊢;have HS2:=hide hs2;have Qp:=hide C2;have Od:Hid (recs≠[]->∀ x,RA=some x->x.block≠rb+1):=hide fun h x hx=>rU hs2 C2 h hx;clear hba hs2 C2 hb2 Tm HR1;go_wp2;refine bodyPost_ret (Xq (p:=2) (u:=3) rfl rfl (((Qp.out.set 0 _).set 1 _).set 2 _)) rfl ?_;exact Xo HE.out hbw2 hrw HS2.out Od.out
   · have HE:Hid (WT op vs hrs Z0 gs ps qs=(⟨Yd op gs ps,0,[]⟩,0)):=hide (by rw [HH.out];simp [h5]);have HVE:Hid (Sz op vs hrs Z0 gs ps qs=(Yd op gs ps,0)):=hide (by rw [HV.out];simp [h5]);have HR1:=NY.out w1 y9.out;rw [HVE.out] at HR1;have HR2:=hide HR1;clear HR1 HH HV NY mh HVE;generalize Yd op gs ps=av at *;go_wp2_with fail;refine HR2.out.mono ?_;rintro e w2 ⟨rfl,hb2⟩;have C2:=Tm.out.step hb2;have hbw2:=Z9 y9.out hb2;clear q0 q1 q2 q3 q4 q5 q6 z0 z1 z2 y0 y1 y2;have z0:=C2.q0 rfl;have z1:=C2.q1 rfl;have z2:=C2.q2 rfl;have y0:=C2.frozen 0;have y1:=C2.frozen 1;have y2:=C2.frozen 2;have Qp:=hide C2;clear C2 hb2 Tm HR2;go_wp2;refine bodyPost_ret (Xq (p:=2) (u:=3) rfl rfl (((Qp.out.set 0 _).set 1 _).set 2 _)) rfl ?_;exact Xo (recs:=[]) HE.out hbw2 hrw (Sl.nil _ _ _) (fun h=>absurd rfl h)
 · have heb:(err != 0)=true:=bne_iff_ne.2 he;have HE:Hid (WT op vs hrs Z0 gs ps qs=(⟨0,0,[]⟩,err)):=hide (by rw [HH.out];simp [he];rfl);clear HH HV NY mh;go_wp2;refine bodyPost_ret (Xq (p:=2) (u:=3) rfl rfl (((Tm.out.set 0 _).set 1 _).set 2 _)) rfl ?_;exact Xo (recs:=[]) HE.out y9.out hrw (Sl.nil _ _ _) (fun h=>absurd rfl h)
end
end
section
open Go.RowKit Go.Shelf
theorem kV{w:World}{q:Rq}{bs:List Int}{hrs:List Rg}{HA:Option Addr}{gs:List Gr}{GA PA QA:Option Addr}{pc:Nat}(hby:By bs)(hd:Zz bs=(q,0))(h:V7 w w.heap.size q hrs HA gs GA PA QA)(hcap:q.ps.length<=pc):Fu w hrs HA gs GA q.ps PA pc q.qs QA:=by
 obtain ⟨dj1,vg,dj3,_⟩:=Tz hby hd;have hsm:=Qf bs;rw [hd] at hsm;dsimp only at hsm;have hl1:hrs.length<=64:=by
  have:=congrArg List.length h.hk;rw [List.length_map,List.length_map] at this;have:=hsm.n1;omega
 have hl2:gs.length<=64:=by
  have:=congrArg List.length h.gd;rw [List.length_map] at this;have:=hsm.n2;omega
 refine ⟨h.hh,by unfold maxLen;omega,h.hg,by unfold maxLen;omega,h.gk,fun g hg=>?_,h.hp,dj1,hcap,h.hq,fun x hx=>(vg x hx).1,fun x hx=>(vg x hx).2⟩;have:PU g∈q.gs:=by rw [<- h.gd];exact List.mem_map.2 ⟨g,hg,rfl⟩
 exact (dj3 _ this).1
section
variable (bs:List Int)(A:Option Addr)(c:Nat)(w:World)
variable (hs:Sl w w.heap.size A (ZY bs))(hby:By bs)(hmax:bs.length<=300000)
include hs hby hmax
theorem bQ:Calls prog 24 #[.slice A bs.length c] w (Gives (Xj bs) (Xj bs).length w):=by
 have HD:=hide (M8 bs A c w hs hby hmax);have hcb:=Ik bs
 by_cases hc:Zb bs=0
 · obtain ⟨q,hd⟩:∃ q,Zz bs=(q,0):=⟨_,by unfold Zz;rw [if_pos hc]⟩;have hsv:Xj bs=YB q.h.op (WO q).val (WO q).cnt (WO q).recs:=(by unfold Xj;rw [hd,if_neg (by simp)]);have znd:=hide (fun (w':World) (hrs:List Rg) (HA:Option Addr) (gs:List Gr) (GA PA QA:Option Addr) (pc:Nat) (h:V7 w' w'.heap.size q hrs HA gs GA PA QA) (hcap:q.ps.length<=pc)=>kV hby hd h hcap)
   have Uo:Hid (∀ hrs gs,hrs.map Rg.key=q.h.rs.map Rg.key->gs.map PU=q.gs->(∀ g∈gs,g.1.n=g.2.length)->WT q.h.op q.h.vs hrs q.h.Z0 gs q.ps q.qs=(WO q,0)/\XM q.h.op q.h.vs hrs q.h.Z0 (WO q).val (WO q).cnt (WO q).recs=(Xj bs,0)):=hide (fun hrs gs hk hgd hn=>by
    obtain ⟨_,vg,_,_⟩:=Tz hby hd;obtain ⟨k1,_,k3,k4⟩:=QG (q:=q) (by rw [LB hby hd hk hgd hn]) hn (fun x hx=>(vg x hx).2) rfl hgd.symm rfl rfl;refine ⟨k1,?_⟩;unfold XM
    rw [if_neg (by simpa using k4),if_neg (by simp [k3]),hsv])
   have HU:Hid ((∀ r∈(WO q).recs,Uf r.1/\Uf r.2)/\(WO q).recs.length<=maxLen):=hide (by
    obtain ⟨_,vg,_,z⟩:=Tz hby hd;constructor
    · intro r hr;unfold WO at hr;split at hr
      · unfold YL at hr;split at hr
        · simp [Wq] at hr
        · exact Fw (QH (q.gs.map cg) (fun x hx=>(vg x hx).2) r ((V3 Zh _).mem_iff.1 hr))
      · simp at hr
    · have hn:∀ g∈q.gs.map cg,g.1.n=g.2.length:=fun g hg=>by
       obtain ⟨x,_,rfl⟩:=List.mem_map.1 hg;rfl
      obtain ⟨_,_,k3,_⟩:=QG (q:=q) (by rw [LB hby hd (hrs:=q.h.rs) (gs:=q.gs.map cg) rfl (FJ _) hn]) hn (fun x hx=>(vg x hx).2) rfl (FJ _).symm rfl rfl;obtain ⟨_,_,_,_,z5,z6,hp5,hpn,_⟩:=Zp z;have hp0:0<=q.h.Z0/\q.h.Z0<=4096:=by
       by_cases h5:q.h.op=5
       · have:=hp5 h5;omega
       · have:=hpn h5;omega
      have hia:=SQ k3 hp0.1;unfold maxLen
      omega)
   rw [hd] at HD;obtain ⟨SB,iJ⟩:=eE (Xj bs);rw [<- iJ] at Uo ⊢;obtain ⟨⟨val,cnt,recs⟩,hqa⟩:∃ a,a=WO q:=⟨_,rfl⟩;rw [<- hqa] at Uo HU;clear hs hby hmax hcb hc hd hsv iJ hqa;obtain ⟨⟨op,vs,ug,Z0⟩,gds,ps,qs⟩:=q
   try dsimp only at *
   go_enter func24,ntmps24;go_wp2_with fail;refine HD.out.mono ?_;rintro e w1 ⟨hrs,HA,hc,gs,GA,gc,PA,pc,QA,qc,rfl,hb1,hr1,hcap⟩;clear HD;unfold Nj
   try dsimp only at hcap
   try dsimp only
   obtain ⟨k1,k2⟩:=Uo.out hrs gs hr1.hk hr1.gd (fun g hg=>(hr1.gk g hg).1);have Au:=znd.out w1 hrs HA gs GA PA QA pc hr1 hcap
   try dsimp only at Au
   obtain ⟨rb,hrb⟩:=eE w1.heap.size;obtain ⟨w2,hw2⟩:=eE (w1.alloc (.cells #[.int .i64 op,.int .i64 vs,.slice HA hrs.length hc,.int .i64 Z0,.slice GA gs.length gc,.slice PA ps.length pc,.slice QA qs.length qc] 73));have hb2:=bE hw2;have HB2:=Z9 hb1 hb2;have B2:Z6 w2 rb 73 #[.int .i64 op,.int .i64 vs,.slice HA hrs.length hc,.int .i64 Z0,.slice GA gs.length gc,.slice PA ps.length pc,.slice QA qs.length qc]:=(by rw [hw2,hrb];exact Z6.new _ _ _);have h2:=Au.below hb2;have HRH:=kX op vs Z0 hrs HA hc gs GA gc ps PA pc qs QA qc w2 h2;rw [k1] at HRH;have HH:=hide HRH;have HRS:=hide k2;have HHS:=hide h2.hh;have b0:w2.cell? ⟨rb,0,none⟩=some (.int .i64 op):=B2.q0 rfl;have b1:w2.cell? ⟨rb,1,none⟩=some (.int .i64 vs):=B2.q1 rfl;have b2:w2.cell? ⟨rb,2,none⟩=some (.slice HA hrs.length hc):=B2.q2 rfl;have b3:w2.cell? ⟨rb,3,none⟩=some (.int .i64 Z0):=B2.q3 rfl;have b4:w2.cell? ⟨rb,4,none⟩=some (.slice GA gs.length gc):=B2.q4 rfl;have b5:w2.cell? ⟨rb,5,none⟩=some (.slice PA ps.length pc):=B2.q5 rfl;have b6:w2.cell? ⟨rb,6,none⟩=some (.slice QA qs.length qc):=B2.q6 rfl;rw [hw2,hrb] at b0 b1 b2 b3 b4 b5 b6;clear hb1 hr1 hcap k1 k2 Au hb2 h2 HRH znd Uo;go_wp2_with fail;rw [<- hw2,<- hrb];clear hw2 hrb b0 b1 b2 b3 b4 b5 b6;refine HH.out.mono ?_;rintro e w3 ⟨RA,rc,rfl,hb3,hs3⟩;dsimp only at hs3 ⊢;have HB3:=Z9 HB2 hb3;have B3:=B2.step hb3;obtain ⟨ab,hab⟩:=eE w3.heap.size;obtain ⟨w4,hw4⟩:=eE (w3.alloc (.cells #[.int .i64 val,.int .i64 cnt,.slice RA recs.length rc] 91));have hb4:=bE hw4;have Qv:=Z9 HB3 hb4;have B4:=B3.step hb4;have A4:Z6 w4 ab 91 #[.int .i64 val,.int .i64 cnt,.slice RA recs.length rc]:=(by rw [hw4,hab];exact Z6.new _ _ _);have b0:w4.cell? ⟨rb,0,none⟩=some (.int .i64 op):=B4.q0 rfl;have b1:w4.cell? ⟨rb,1,none⟩=some (.int .i64 vs):=B4.q1 rfl;have b2:w4.cell? ⟨rb,2,none⟩=some (.slice HA hrs.length hc):=B4.q2 rfl;have b3:w4.cell? ⟨rb,3,none⟩=some (.int .i64 Z0):=B4.q3 rfl;have a0:w4.cell? ⟨ab,0,none⟩=some (.int .i64 val):=A4.q0 rfl;have a1:w4.cell? ⟨ab,1,none⟩=some (.int .i64 cnt):=A4.q1 rfl;have a2:w4.cell? ⟨ab,2,none⟩=some (.slice RA recs.length rc):=A4.q2 rfl;rw [hw4] at b0 b1 b2 b3 a0 a1 a2;rw [hab] at a0 a1 a2;have RS:=GK op vs Z0 hrs HA hc val cnt recs RA rc w4 (((HHS.out.below hb3).more hb3.size).below hb4 |>.more hb4.size) ((hs3.below hb4).more hb4.size) HU.out.2 HU.out.1;rw [HRS.out] at RS;have HR4:=hide RS;clear RS hs3 hb3 hb4 B2 B3 B4 A4 HH HHS HRS HU hab;go_wp2_with fail;rw [<- hw4];clear hw4 b0 b1 b2 b3 a0 a1 a2;refine HR4.out.mono ?_;rintro e w5 ⟨v,rfl,hv,hb5⟩;dsimp only at hv ⊢;obtain ⟨UA,uc,rfl,huc⟩:=ZJ hv;have hsu:=Sl.YI hv;have fK:=Z9 Qv hb5;clear hv HR4;go_wp2;go_ret;exact ⟨UA,uc,rfl,fK,hsu⟩
 · have hd:Zz bs=(Yk,Zb bs):=(by unfold Zz;rw [if_neg hc]);rw [xg hc];rw [hd] at HD;obtain ⟨E,hE⟩:=eE (Zb bs);rw [<- hE] at HD hc hcb ⊢;have hne:(E != 0)=true:=(by simpa using hc);have hwv:IntKind.u8.wrap E=E:=(by rw [IntKind.wrap_u8];omega);clear hs hby hmax hd hE;go_enter func24,ntmps24;go_wp2_with fail;refine HD.out.mono ?_;rintro e w1 ⟨hrs,HA,hc2,gs,GA,gc,PA,pc,QA,qc,rfl,hb1,hr1,hcap⟩;unfold Nj;dsimp only;clear HD hr1 hcap;go_wp2;go_ret;refine ⟨_,_,rfl,Z7 (Z7 hb1 _) _,?_⟩;have h:=slb (xs:=ZY [E]) (Z6.new (w1.alloc (.cells #[.int .i64 Yk.h.op,.int .i64 Yk.h.vs,.slice HA hrs.length hc2,.int .i64 Yk.h.Z0,.slice GA gs.length gc,.slice PA Yk.ps.length pc,.slice QA Yk.qs.length qc] 73)) 5 _);simp only [World.size_alloc] at h ⊢;exact h
end
end
end Go.Proofs.YtfljlmleiggmjaaGreatDoor