/- Handle ServeMath Serve ServeFacts -/
import Derived.Defers
import Derived.Test.YtfljlmleiggmjaaGreatDoorPkD08
import Derived.Test.YtfljlmleiggmjaaGreatDoorPkD09
import Derived.Test.YtfljlmleiggmjaaGreatDoorPkD32
import Derived.Test.YtfljlmleiggmjaaGreatDoorPkD36
import Derived.Test.YtfljlmleiggmjaaGreatDoorPkD37
set_option maxRecDepth 1000000
set_option maxHeartbeats 8000000
namespace Go.Proofs.YtfljlmleiggmjaaGreatDoor
open Go.Proofs.Tryz
section
open Go.RowKit Go.Shelf
structure CV(w:World)(P:Nat->Prop)(hrs:List Rg)(HA:Option Addr)(gs:List Gr)(GA:Option Addr)(ps:List Pt)(PA:Option Addr)(pc:Nat)(qs:List ((Int × Int) × Int))(QA:Option Addr):Prop where
 hh:U2 w P HA (rgCells hrs)
 hn:hrs.length<=maxLen
 hg:U2 w P GA (rgCells (gs.map (·.1)))
 gk:xK w P gs
 hp:U2 w P PA (Zc ps)
 pj:Tq ps
 cap:ps.length<=pc
 hq:U2 w P QA (Vs qs)
 qj:∀ q∈qs,PJ q.1
 qu:∀ q∈qs,Uf q.2
theorem CV.kept{w w':World}{P R:Nat->Prop}{hrs:List Rg}{HA:Option Addr}{gs:List Gr}{GA:Option Addr}{ps:List Pt}{PA:Option Addr}{pc:Nat}{qs:List ((Int × Int) × Int)}{QA:Option Addr}(h:CV w P hrs HA gs GA ps PA pc qs QA)(hk:Z8 P w w')(hR:∀ k,P k->R k):CV w' R hrs HA gs GA ps PA pc qs QA :=
 ⟨(h.hh.kept hk).mono hR,h.hn,(h.hg.kept hk).mono hR,fun g hg=>⟨(h.gk g hg).1,((h.gk g hg).2.1.kept hk).mono hR,(h.gk g hg).2.2⟩,(h.hp.kept hk).mono hR,h.pj,h.cap,(h.hq.kept hk).mono hR,h.qj,h.qu⟩
theorem CV.iF{w:World}{P:Nat->Prop}{hrs:List Rg}{HA:Option Addr}{gs:List Gr}{GA:Option Addr}{ps:List Pt}{PA:Option Addr}{pc:Nat}{qs:List ((Int × Int) × Int)}{QA:Option Addr}(h:CV w P hrs HA gs GA ps PA pc qs QA){B:Nat}(hP:∀ k,P k->k<B):uh w B gs :=
 fun g hg=>⟨(h.gk g hg).1,(h.gk g hg).2.1.sl hP⟩
def WT(op vs:Int)(hrs:List Rg)(Z0:Int)(gs:List Gr)(ps:List Pt)(qs:List ((Int × Int) × Int)):lY × Int :=
 if (ZG op vs hrs Z0 gs ps qs).2≠0 then (Wq,(ZG op vs hrs Z0 gs ps qs).2) else if op=5 then YL gs qs else (⟨Yd op gs ps,0,[]⟩,0)
def Wh(op vs:Int)(hrs:List Rg)(Z0:Int)(gs:List Gr)(ps:List Pt)(qs:List ((Int × Int) × Int)):List Ev :=
 if (ZG op vs hrs Z0 gs ps qs).2≠0 then [] else if op=5 then Xg gs qs.length else Ro op gs ps
theorem nE (P:Nat->Prop) (t:Option (Nat × Nat)) (es:List Ev) (op vs Z0:Int) (hrs:List Rg) (HA:Option Addr) (hc:Nat) (gs:List Gr) (GA:Option Addr) (gc:Nat) (ps:List Pt) (PA:Option Addr) (pc:Nat) (qs:List ((Int × Int) × Int)) (QA:Option Addr) (qc:Nat) (w:World) (hP:∀ k,P k->k<w.heap.size) (hg0:P 3) (hw:MW w) (ht:Tp w P t es) (hl:t=none\/es.length<=600000)
 (h:CV w P hrs HA gs GA ps PA pc qs QA) :
 Calls prog 105 #[.pointer (Zu t),.agg #[.int .i64 op,.int .i64 vs,.slice HA hrs.length hc,.int .i64 Z0,.slice GA gs.length gc,.slice PA ps.length pc,.slice QA qs.length qc]] w fun e w'=>e=.returned (.tuple #[.agg #[.int .i64 (Sz op vs hrs Z0 gs ps qs).1,.int .i64 0,.slice none 0 0],.int .i64 (Sz op vs hrs Z0 gs ps qs).2])/\Z8 P w w'/\Tp w' P t (es++Mx op vs hrs Z0 gs ps qs):=by
 rcases hl with rfl|hl
 · refine (JV P none [] op vs Z0 hrs HA hc gs GA gc ps PA pc qs QA qc w hP hg0 hw trivial (by simp) h.pj h.hp h.cap h.hg h.gk h.hh h.hn (h.hq.sl hP)).mono ?_;rintro e w' ⟨h1,h2,_⟩;exact ⟨h1,h2,trivial⟩
 · exact JV P t es op vs Z0 hrs HA hc gs GA gc ps PA pc qs QA qc w hP hg0 hw ht hl h.pj h.hp h.cap h.hg h.gk h.hh h.hn (h.hq.sl hP)
theorem Sl.TM{w:World}{A:Option Addr}{xs:List Value}{b o:Nat}(h:Sl w w.heap.size A xs)(hne:xs≠[]->∀ x,A=some x->x.block≠b)(u:Value):Sl (w.setCell ⟨b,o,none⟩ u) (w.setCell ⟨b,o,none⟩ u).heap.size A xs :=
 (h.far (p:=⟨b,o,none⟩) hne u).more (by simp)
theorem Py {P Q:Nat->Prop} {t:Option (Nat × Nat)} {es' es2:List Ev} {r:lY × Int} {w w2:World} {g c:Nat} {A:Option Addr} {val cnt er:Int} {recs:List (Int × Int)} {u0 u1 u2:Value} (hr:r=(⟨val,cnt,recs⟩,er)) (he:es'=es2) (hk:Z8 P w w2) (hnp:¬ P g) (ht:Tp w2 Q t es2) (hg:Q g) (hsub:∀ k,P k->Q k)
 (hs:Sl w2 w2.heap.size A (Zt recs)) (hne:recs≠[]->∀ x,A=some x->x.block≠g) :
 y8 P t es' r w (.returned (.tuple #[.agg #[.int .i64 val,.int .i64 cnt,.slice A recs.length c],.int .i64 er])) (((w2.setCell ⟨g,0,none⟩ u0).setCell ⟨g,1,none⟩ u1).setCell ⟨g,2,none⟩ u2):=by
 subst hr;subst he;have hne':Zt recs≠[]->∀ x,A=some x->x.block≠g:=fun h=>hne fun e=>h (by rw [e];rfl);exact ⟨A,c,rfl,hk.trans ((Z8.setCell hnp _ _ _).trans ((Z8.setCell hnp _ _ _).trans (Z8.setCell hnp _ _ _))),(((ht.set hg _ _).set hg _ _).set hg _ _).mono hsub,((hs.TM hne' _).TM hne' _).TM hne' _⟩
theorem Ae (P:Nat->Prop) (t:Option (Nat × Nat)) (es:List Ev) (op vs Z0:Int) (hrs:List Rg) (HA:Option Addr) (hc:Nat) (gs:List Gr) (GA:Option Addr) (gc:Nat) (ps:List Pt) (PA:Option Addr) (pc:Nat) (qs:List ((Int × Int) × Int)) (QA:Option Addr) (qc:Nat) (w:World) (hP:∀ k,P k->k<w.heap.size) (hg0:P 3) (hw:MW w) (ht:Tp w P t es) (hl:t=none\/es.length+4161*qs.length+(YZ (lg qs.length)).length<=600000)
 (hr:CV w P hrs HA gs GA ps PA pc qs QA) :
 Calls prog 59 #[.pointer (Zu t),.agg #[.int .i64 op,.int .i64 vs,.slice HA hrs.length hc,.int .i64 Z0,.slice GA gs.length gc,.slice PA ps.length pc,.slice QA qs.length qc]] w (y8 P t (es++Wh op vs hrs Z0 gs ps qs) (WT op vs hrs Z0 gs ps qs) w):=by
 obtain ⟨rb,hrb⟩:=eE w.heap.size;obtain ⟨w0,hw0⟩:=eE ((w.alloc (.cells #[.int .i64 op,.int .i64 vs,.slice HA hrs.length hc,.int .i64 Z0,.slice GA gs.length gc,.slice PA ps.length pc,.slice QA qs.length qc] 100)).alloc (.cells #[.int .i64 0,.int .i64 0,.slice none 0 0] 103));have hb0:=bF hw0;have B0:Z6 w0 rb 100 #[.int .i64 op,.int .i64 vs,.slice HA hrs.length hc,.int .i64 Z0,.slice GA gs.length gc,.slice PA ps.length pc,.slice QA qs.length qc]:=by rw [hw0,hrb];exact (Z6.new _ _ _).alloc _
 have C0:Z6 w0 (rb+1) 103 #[.int .i64 0,.int .i64 0,.slice none 0 0]:=by rw [hw0,hrb];exact Z6.new2 _ _ _ _
 have hk0:Z8 P w w0:=Z8.of_below hb0 hP;have Sg:∀ k,P k->k<w0.heap.size:=fun k hk=>Nat.lt_of_lt_of_le (hP k hk) hb0.size;have hr0:=hr.kept hk0 (R:=P) fun k h=>h;have JM:=Ki op vs Z0 hrs HA hc gs GA gc ps PA pc qs QA qc w0 (hr0.hh.sl Sg) (hr0.hg.sl Sg) (hr0.iF Sg) (hr0.hp.sl Sg) (hr0.hq.sl Sg) hr.hn;have NY:Hid (WT op vs hrs Z0 gs ps qs=if (ZG op vs hrs Z0 gs ps qs).2≠0 then (Wq,(ZG op vs hrs Z0 gs ps qs).2) else if op=5 then YL gs qs else (⟨Yd op gs ps,0,[]⟩,0)):=rfl;have RO:Hid (Wh op vs hrs Z0 gs ps qs=if (ZG op vs hrs Z0 gs ps qs).2≠0 then [] else if op=5 then Xg gs qs.length else Ro op gs ps):=rfl;have HAV:Hid (Sz op vs hrs Z0 gs ps qs=if (ZG op vs hrs Z0 gs ps qs).2≠0 then (0,(ZG op vs hrs Z0 gs ps qs).2) else if op=5 then (0,2) else (Yd op gs ps,0)):=rfl;have HAE:Hid (Mx op vs hrs Z0 gs ps qs=if (ZG op vs hrs Z0 gs ps qs).2≠0 then [] else Ro op gs ps):=rfl;obtain ⟨⟨bs,err⟩,hE⟩:∃ E,E=ZG op vs hrs Z0 gs ps qs:=⟨_,rfl⟩;rw [<- hE] at JM NY RO HAV HAE;have fT:=hide JM;have HP:=hide hP;have HG:=hide hg0;have HT:=hide ht;have HB0:=hide hb0;have HR:=hide hr;have HW:=hide hw;have HL:=hide hl;have Sb:Hid (¬ P (rb+1)):=fun h=>by have:=hP _ h;omega
 have HM:Hid (∀ k,Also (Also P rb) (rb+1) k->P k\/w.heap.size<=k):=fun k hk=>by
  rcases hk with (hk|hk)|hk
  · exact .inl hk
  · exact .inr (by omega)
  · exact .inr (by omega)
 clear hE JM hk0 hP hg0 hw ht hr hb0 Sg hr0 hl;dsimp only at *;go_enter func59,ntmps59;go_wp2_with fail;rw [<- hw0,<- hrb];have HW0:=hide hw0;have JL:=hide hrb;clear hw0 hrb;refine fT.out.mono ?_;rintro e w1 ⟨v,rfl,hv1,hb1⟩;have B1:=B0.step hb1;have C1:=C0.step hb1;have hB1:=Z9 HB0.out hb1;obtain ⟨VA,Um,rfl,_⟩:=ZJ hv1;have hK1:Z8 P w w1:=Z8.of_below hB1 HP.out
 have hP1:∀ j,Also (Also P rb) (rb+1) j->j<w1.heap.size:=fun j hj=>by
  rcases hj with (hj|hj)|hj
  · exact Nat.lt_of_lt_of_le (HP.out j hj) hK1.size
  · subst hj;exact B1.lt
  · subst hj;exact C1.lt
 have ht1:Tp w1 (Also (Also P rb) (rb+1)) t es:=(HT.out.add HM.out).step hB1;have hsub:∀ k,P k->Also (Also P rb) (rb+1) k:=fun k h=>.inl (.inl h);have hr1:=HR.out.kept hK1 hsub;have hw1:=HW.out.kept hK1 HG.out;have c0:=B1.q0 rfl;have c1:=B1.q1 rfl;have c2:=B1.q2 rfl;have c3:=B1.q3 rfl;have c4:=B1.q4 rfl;have c5:=B1.q5 rfl;have c6:=B1.q6 rfl;have Np:=hide hK1;have Tm:=hide C1;have L9:=hide hP1;have Mc:=hide hsub;have HB1:=hide hB1
 by_cases he:err=0
 · subst he
   by_cases h5:op=5
   · subst h5;have HA2:Hid (WT 5 vs hrs Z0 gs ps qs=YL gs qs):=hide (NY.out.trans ((if_neg (by simp)).trans (if_pos rfl)));have HE2:Hid (Wh 5 vs hrs Z0 gs ps qs=Xg gs qs.length):=hide (RO.out.trans ((if_neg (by simp)).trans (if_pos rfl)));have zl:=hide (lu (Also (Also P rb) (rb+1)) t es gs GA gc qs QA qc hr1.qj hr1.qu w1 hP1 (Mc.out _ HG.out) hr1.hg hr1.gk hr1.hq hw1 ht1 HL.out);clear hK1 C1 hP1 ht1 hr1 hw1 hB1 hb1 hv1 NY RO HAV HAE B1 hsub;go_wp2_with fail;refine zl.out.mono ?_;rintro e w2 ⟨A,c,rfl,hk2,ht2,hs2⟩;have C2:=Tm.out.kept hk2 (.inr rfl);have y0:=C2.q0 rfl;have y1:=C2.q1 rfl;have y2:=C2.q2 rfl;have g0:=C2.frozen 0;have g1:=C2.frozen 1;have g2:=C2.frozen 2;obtain ⟨⟨⟨val,cnt,recs⟩,er⟩,hR⟩:∃ R,R=YL gs qs:=⟨_,rfl⟩;have hsA:Sl w2 w2.heap.size A (Zt recs)/\(recs≠[]->∀ x,A=some x->x.block≠rb+1):=by
      refine ⟨by rw [<- hR] at hs2;exact hs2,fun hne x hx=>?_⟩;subst hx;rw [<- hR] at hs2;intro hxe;rcases hs2 with h|⟨b,off,hb,_,hcell⟩
      · obtain ⟨r,l,rfl⟩:=List.exists_cons_of_ne_nil hne;simp [Zt] at h
      · cases hb;dsimp only at hxe;subst hxe;obtain ⟨r,l,rfl⟩:=List.exists_cons_of_ne_nil hne;have h0:=hcell 0 (.int .u64 r.1) rfl;have hh:w2.heap[rb+1]?=some (.cells #[.int .i64 0,.int .i64 0,.slice none 0 0] 103 (0,0)):=C2;rw [cell_of_row w2 (rb+1) (off+0) _ _ _ hh] at h0;have:off+0<3:=by
         have:=(Array.getElem?_eq_some_iff.1 h0).1;simpa using this
        have h3:off+0=0\/off+0=1\/off+0=2:=(by omega);rcases h3 with h3|h3|h3 <;> rw [h3] at h0 <;> simp at h0
     rw [<- hR];dsimp only;have HSA:=hide hsA;have HRR:=hide (((C2.set 0 (.int .i64 val)).set 1 (.int .i64 cnt)).set 2 (.slice A recs.length c));have mR:=hide (Np.out.trans (hk2.mono Mc.out));have HT2:Hid (Tp w2 (Also (Also P rb) (rb+1)) t (es++Xg gs qs.length)):=ht2;have xP:=hide hR;clear hk2 ht2 hs2 C2 hsA hR c0 c1 c2 c3 c4 c5 c6;go_wp2;refine bodyPost_ret (Uz rfl rfl HRR.out) rfl ?_;exact Py (by rw [HA2.out,xP.out]) (by rw [HE2.out]) mR.out Sb.out HT2.out (.inr rfl) Mc.out HSA.out.1 HSA.out.2
   · have h5n:¬ (op:Int)=5:=h5;have HA2:Hid (WT op vs hrs Z0 gs ps qs=(⟨Yd op gs ps,0,[]⟩,0)):=hide (NY.out.trans ((if_neg (by simp)).trans (if_neg h5)));have HE2:Hid (Wh op vs hrs Z0 gs ps qs=Ro op gs ps):=hide (RO.out.trans ((if_neg (by simp)).trans (if_neg h5)));have zmj:Sz op vs hrs Z0 gs ps qs=(Yd op gs ps,0):=HAV.out.trans ((if_neg (by simp)).trans (if_neg h5));have zmh:Mx op vs hrs Z0 gs ps qs=Ro op gs ps:=HAE.out.trans (if_neg (by simp));have gJ:=nE (Also (Also P rb) (rb+1)) t es op vs Z0 hrs HA hc gs GA gc ps PA pc qs QA qc w1 hP1 (Mc.out _ HG.out) hw1 ht1 (by rcases HL.out with h|h;exact .inl h;exact .inr (by omega)) hr1;rw [zmj,zmh] at gJ;have zl:=hide gJ;obtain ⟨val,hval⟩:=eE (Yd op gs ps);rw [<- hval] at zl HA2;clear hval zmj zmh gJ hK1 C1 hP1 ht1 hr1 hw1 hB1 hb1 hv1 NY RO HAV HAE B1 hsub;go_wp2_with fail;refine zl.out.mono ?_;rintro e w2 ⟨rfl,hk2,ht2⟩;have C2:=Tm.out.kept hk2 (.inr rfl);have y0:=C2.q0 rfl;have y1:=C2.q1 rfl;have y2:=C2.q2 rfl;have g0:=C2.frozen 0;have g1:=C2.frozen 1;have g2:=C2.frozen 2;have HRR:=hide (((C2.set 0 (.int .i64 val)).set 1 (.int .i64 0)).set 2 (.slice none 0 0));have mR:=hide (Np.out.trans (hk2.mono Mc.out));have HT2:=hide ht2;clear hk2 ht2 C2 c0 c1 c2 c3 c4 c5 c6;go_wp2;refine bodyPost_ret (Uz rfl rfl HRR.out) rfl ?_;exact Py HA2.out (by rw [HE2.out]) mR.out Sb.out HT2.out (.inr rfl) Mc.out (Sl.nil _ _ _) (fun h=>absurd rfl h)
 · have hen:¬ (err:Int)=0:=he;have HA2:Hid (WT op vs hrs Z0 gs ps qs=(Wq,err)):=hide (NY.out.trans (if_pos he));have HE2:Hid (Wh op vs hrs Z0 gs ps qs=[]):=hide (RO.out.trans (if_pos he));have C2:=Tm.out;have y0:=C2.q0 rfl;have y1:=C2.q1 rfl;have y2:=C2.q2 rfl;have g0:=C2.frozen 0;have g1:=C2.frozen 1;have g2:=C2.frozen 2;have HRR:=hide (((C2.set 0 (.int .i64 0)).set 1 (.int .i64 0)).set 2 (.slice none 0 0));have HT2:=hide ht1;clear hK1 C1 hP1 ht1 hr1 hw1 hB1 hb1 hv1 NY RO HAV HAE B1 hsub C2 c0 c1 c2 c3 c4 c5 c6;go_wp2;refine bodyPost_ret (Uz rfl rfl HRR.out) rfl ?_;exact Py HA2.out (by rw [HE2.out,List.append_nil]) Np.out Sb.out HT2.out (.inr rfl) Mc.out (Sl.nil _ _ _) (fun h=>absurd rfl h)
end
section
open Go.RowKit
def Pz(g:Gr):Gr:=(⟨g.1.d,g.1.v,none,g.2.length,0⟩,g.2)
def cg(x:Gd):Gr:=(⟨x.1,x.2.1,none,x.2.2.length,0⟩,x.2.2)
theorem zno(gs:List Gr):(gs.map PU).map cg=gs.map Pz:=by rw [List.map_map];rfl
theorem MC:∀ (gs:List Gr),(∀ g∈gs,g.1.n=g.2.length)->Y1 ((gs.map Pz).map (·.1))=Y1 (gs.map (·.1))
 | [],_=>rfl
 | g::gs,h=>by
   have ih:=MC gs fun x hx=>h x (List.mem_cons_of_mem _ hx);have hn:=h g (List.mem_cons_self ..);rw [List.map_cons,List.map_cons,List.map_cons,Y1,Y1,ih];show (if ZN g.1.v=0 then _ else if ZN g.1.v=(g.2.length:Int) then _ else _)=_;rw [<- hn]
theorem Ur{gs:List Gr}(h:∀ g∈gs,g.1.n=g.2.length):Zk ((gs.map Pz).map (·.1))=Zk (gs.map (·.1)):=by
 unfold Zk;rw [MC gs h,List.length_map,List.length_map,List.length_map]
theorem QU{gs:List Gr}(h:∀ g∈gs,g.1.n=g.2.length):Y7 (gs.map Pz)=Y7 gs:=by
 unfold Y7 RX;rw [Ur h,List.foldl_map];rfl
theorem Hf{gs:List Gr}(h:∀ g∈gs,g.1.n=g.2.length)(p:Pt):XD (gs.map Pz) p=XD gs p:=by
 unfold XD VP;rw [Ur h,List.foldl_map];rfl
theorem Da:∀ (i:Nat) (gs:List Gr),VY i (gs.map Pz)=VY i gs
 | _,[]=>rfl
 | i,g::gs=>by rw [List.map_cons,VY,VY,Da (i+1) gs];rfl
theorem C9:∀ (i:Nat) (gs:List Gr),Wu i (gs.map Pz)=Wu i gs
 | _,[]=>rfl
 | i,g::gs=>by rw [List.map_cons,Wu,Wu,C9 (i+1) gs];rfl
theorem xY{gs:List Gr}(h:∀ g∈gs,g.1.n=g.2.length):Ze (gs.map Pz)=Ze gs:=by unfold Ze;rw [Ur h,Da]
theorem xX{gs:List Gr}(h:∀ g∈gs,g.1.n=g.2.length):YC (gs.map Pz)=YC gs:=by unfold YC;rw [Ur h,C9]
theorem uQ{gs:List Gr}(h:∀ g∈gs,g.1.n=g.2.length)(qs:List ((Int × Int) × Int)):Y6 (gs.map Pz) qs=Y6 gs qs:=by
 unfold Y6;refine List.map_congr_left fun q _=>?_;unfold hrec;rw [QU h,Hf h]
theorem JZ{gs:List Gr}(h:∀ g∈gs,g.1.n=g.2.length)(n:Nat):Yf (gs.map Pz) n=Yf gs n:=by unfold Yf;rw [Ur h]
theorem zu{gs:List Gr}(h:∀ g∈gs,g.1.n=g.2.length)(qs:List ((Int × Int) × Int)):YL (gs.map Pz) qs=YL gs qs:=by unfold YL;rw [JZ h,QU h,uQ h]
theorem C8{gs:List Gr}(h:∀ g∈gs,g.1.n=g.2.length)(n:Nat):Xg (gs.map Pz) n=Xg gs n:=by unfold Xg XI;rw [JZ h,xY h,xX h]
theorem uP{gs:List Gr}(h:∀ g∈gs,g.1.n=g.2.length)(op:Int)(ps:List Pt):Yd op (gs.map Pz) ps=Yd op gs ps:=by unfold Yd Vy;rw [QU h,Hf h]
theorem nJ{gs:List Gr}(h:∀ g∈gs,g.1.n=g.2.length)(op:Int)(ps:List Pt):Ro op (gs.map Pz) ps=Ro op gs ps:=by unfold Ro Oy;rw [xY h,xX h]
def WO(q:Rq):lY:=if q.h.op=5 then (YL (q.gs.map cg) q.qs).1 else ⟨Yd q.h.op (q.gs.map cg) q.ps,0,[]⟩
def aU(q:Rq):List Ev:=if q.h.op=5 then Xg (q.gs.map cg) q.qs.length else Ro q.h.op (q.gs.map cg) q.ps
def Xj(bs:List Int):List Int:=if (Zz bs).2≠0 then [(Zz bs).2] else YB (Zz bs).1.h.op (WO (Zz bs).1).val (WO (Zz bs).1).cnt (WO (Zz bs).1).recs
def XC(bs:List Int):List Ev:=if (Zz bs).2≠0 then [] else aU (Zz bs).1
theorem Kn:∀ (gs:List Gr) (hrs:List Rg),gs.length=hrs.length->(gs.zip hrs).any VL=false->(gs.zip hrs).any Wp=false->hrs.any Zq=false->Y1 (gs.map (·.1))=0
 | [],[],_,_,_,_=>rfl
 | [],_::_,h,_,_,_=>by simp at h
 | _::_,[],h,_,_,_=>by simp at h
 | g::gs,r::hrs,hl,hs,hk,hw=>by
   rw [List.zip_cons_cons,List.any_cons,Bool.or_eq_false_iff] at hs hk;rw [List.any_cons,Bool.or_eq_false_iff] at hw;have a3:=Kn gs hrs (by simpa using hl) hs.2 hk.2 hw.2;have h1:(g.1.n:Int)=ZN r.v:=(by have:=hs.1;unfold VL at this;simpa using this);have h2:g.1.v=r.v:=by
    have:=hk.1;unfold Wp at this;rw [Bool.or_eq_false_iff] at this;simpa using this.2
   have h3:ZN r.v≠0:=(by have:=hw.1;unfold Zq at this;simpa using this);show Y1 (g.1::gs.map (·.1))=0;unfold Y1;rw [h2,if_neg h3,if_pos h1.symm];exact a3
theorem sw(x:Int):0<=x.sign+1/\x.sign+1<=2:=by rcases WW x with h|h|h <;> rw [h] <;> decide
theorem nD(op:Int)(gs:List Gr)(ps:List Pt):0<=Yd op gs ps/\(op≠5->Yd op gs ps<=most op):=by
 have hc:∀ ps p,0<=Wt ps p/\Wt ps p<=3:=fun ps p=>by
  have h:=LZ (WM (Z5 ps) ps p (List.range (ZA ps.length))).1 (WM (Z5 ps) ps p (List.range (ZA ps.length))).2;have e:Uk ps p=JH (WM (Z5 ps) ps p (List.range (ZA ps.length))).1 (WM (Z5 ps) ps p (List.range (ZA ps.length))).2:=rfl;rw [<- e] at h;unfold Wt;cases Yl ps <;> simp <;> omega
 have hf:∀ p,0<=Vy gs p/\Vy gs p<=2:=fun p=>by
  unfold Vy;cases Y7 gs <;> cases XD gs p <;> decide
 unfold Yd most
 by_cases o1:op=1
 · rw [if_pos o1,if_neg (by omega),if_neg (by omega)];have:=sw (ZF (Z4 ps 0) (Z4 ps 1) (Z4 ps 2));exact ⟨this.1,fun _=>this.2⟩
 rw [if_neg o1]
 by_cases o2:op=2
 · rw [if_pos o2,if_neg (by omega),if_neg (by omega)];have:=sw (Yq (Z4 ps 0) (Z4 ps 1) (Z4 ps 2) (Z4 ps 3));exact ⟨this.1,fun _=>this.2⟩
 rw [if_neg o2]
 by_cases o3:op=3
 · rw [if_pos o3,if_pos o3];have:=hc (ps.take (ps.length - 1)) (Z4 ps (ps.length - 1));exact ⟨this.1,fun _=>this.2⟩
 rw [if_neg o3,if_neg o3];have:=hf (Z4 ps 0);exact ⟨this.1,fun h5=>by rw [if_neg h5];exact this.2⟩
theorem QG{op vs Z0:Int}{hrs:List Rg}{gs:List Gr}{ps:List Pt}{qs:List ((Int × Int) × Int)}(h:(ZG op vs hrs Z0 gs ps qs).2=0)(hn:∀ g∈gs,g.1.n=g.2.length)(hq:∀ q∈qs,Uf q.2){q:Rq}(e1:q.h.op=op)(e3:q.gs=gs.map PU)(e4:q.ps=ps)(e5:q.qs=qs):
 WT op vs hrs Z0 gs ps qs=(WO q,0)/\Wh op vs hrs Z0 gs ps qs=aU q/\Wm op Z0 (WO q).val (WO q).cnt (WO q).recs=true/\ZT op vs hrs Z0=0:=by
 obtain ⟨hc,hgl,hpl,vR,hsz,hkd⟩:=Uw h;obtain ⟨o1,o5,c3,c4,c5,c6,c7,c8,_⟩:=Zp hc;have hh:WT op vs hrs Z0 gs ps qs=if op=5 then YL gs qs else (⟨Yd op gs ps,0,[]⟩,0):=if_neg (by simpa using h);have he:Wh op vs hrs Z0 gs ps qs=if op=5 then Xg gs qs.length else Ro op gs ps:=if_neg (by simpa using h);rw [hh,he];unfold WO aU;rw [e1,e3,e4,e5,zno,zu hn,C8 hn,uP hn,nJ hn]
 by_cases h5:op=5
 · subst h5;rw [if_pos rfl,if_pos rfl,if_pos rfl];have hpt:=c7 rfl;have pI:(qs.length:Int)=Z0:=(by rw [vR];unfold WX;rw [if_neg (by omega)]);obtain ⟨l1,l2,l3⟩:=c5 (by omega);have hf:Zk (gs.map (·.1))=0:=by
    unfold Zk;rw [if_neg (by rw [List.length_map];omega)];exact Kn gs hrs hgl hsz hkd l3
   have hb:Yf gs qs.length=0:=by
    unfold Yf;rw [if_neg (by simpa using hf),if_neg (by omega)]
   have hr:YL gs qs=((YL gs qs).1,0):=(by unfold YL;rw [if_neg (by simpa using hb)]);refine ⟨hr,rfl,?_,hc⟩;rw [<- pI];exact CX hq hb
 · rw [if_neg h5,if_neg h5,if_neg h5];refine ⟨rfl,rfl,?_,hc⟩;have hp:=c8 h5;have hb:=nD op gs ps;have hb2:=hb.2 h5;unfold Wm;dsimp only;rw [if_neg (by omega),if_neg (by omega),if_neg (by simp [hp]),if_neg (by omega),if_neg (by unfold Nw;split <;> omega)];rfl
theorem LB{bs:List Int}{q:Rq}(hby:By bs)(hd:Zz bs=(q,0)){hrs:List Rg}{gs:List Gr}(hk:hrs.map Rg.key=q.h.rs.map Rg.key)(hg:gs.map PU=q.gs)(hn:∀ g∈gs,g.1.n=g.2.length):
 ZG q.h.op q.h.vs hrs q.h.Z0 gs q.ps q.qs=(bs,0):=by
 unfold Zz at hd
 by_cases hc:Zb bs=0
 · rw [if_pos hc] at hd;obtain ⟨⟨h,n,er⟩,hp⟩:∃ r,r=ZW bs:=⟨_,rfl⟩;rw [<- hp] at hd;obtain ⟨z1,z2,z3,z4,z5,z6,_,_,z7⟩:=Tx hp.symm hc;have hcan:=NK bs (fun j x hj=>hby x (List.mem_of_getElem? hj));rw [<- hp] at hcan;obtain ⟨f1,f2,f3⟩:=hcan z1;dsimp only at f1 f2 f3 hd;have zpo:bs=Zo h.op h.vs h.rs h.Z0++bs.drop n.toNat:=(by rw [f1,List.take_append_drop]);have hfmt:=Jy z2 (bs.drop n.toNat);rw [<- zpo,<- hp] at hfmt;have pQ:h.rs=h.rs.map Vm:=by
    have:=congrArg (fun r:PH × Int × Int=>r.1.rs) hfmt;exact this
   have hh:h=⟨h.op,h.vs,h.rs.map Vm,h.Z0⟩:=by
    have:=congrArg (fun r:PH × Int × Int=>r.1) hfmt;exact this
   have hq:Uc h (bs.drop n.toNat)=q:=by
    have:=congrArg Prod.fst hd;exact this
   subst hq;have hl:((bs.drop n.toNat).length:Int)=16*(YV h.rs:Int)+16*Xu h.op h.vs+24*WX h.op h.Z0:=(by rw [List.length_drop];omega);have key:=Jv (hrs:=hrs) (gs:=gs) z2 hl (hby.drop _) (by rw [<- pQ];exact hk) (by rw [<- pQ];exact hg) hn;rw [<- pQ] at key;have e:(Uc ⟨h.op,h.vs,h.rs,h.Z0⟩ (bs.drop n.toNat))=Uc h (bs.drop n.toNat):=rfl;rw [e] at key;rw [<- zpo] at key;exact key
 · rw [if_neg hc] at hd;have:=congrArg Prod.snd hd;exact absurd this hc
end
section
open Go.RowKit Go.Shelf Go.Maps
def UU(w:World):Option (Nat × Nat)->Prop
 | none=>True
 | some u=>Z6 w u.1 99 #[.slice none 0 0,.map (some u.2)]/\w.ownsMap (H:=Unit) prog 3 (plainElem prog 3) u.2 0 (.map [])
def NT(t:Option (Nat × Nat))(n:Nat)(k:Nat):Prop:=k<n/\∀ u,t=some u->k≠u.1/\k≠u.2
theorem UU.tp{w:World}{t:Option (Nat × Nat)}{P:Nat->Prop}(h:UU w t)(hP:∀ k,P k->∀ u,t=some u->k≠u.1/\k≠u.2):Tp w P t []:=by
 cases t with
 | none=>trivial
 | some u=>exact ⟨.slice none 0 0,0,.map [],h.1,fun hp=>(hP _ hp u rfl).1 rfl,fun hp=>(hP _ hp u rfl).2 rfl,World.ownsRow_nil _ _ _ _,by simp [Value.ownBlock],by simp [Value.ownBlock],Nat.le_refl _,h.2⟩
theorem UU.step{w w':World}{t:Option (Nat × Nat)}(h:UU w t)(hb:Below w.heap.size w w'):UU w' t:=by
 cases t with
 | none=>trivial
 | some u=>exact ⟨h.1.step hb,h.2.kept (below_grown hb) (by simp)⟩
theorem UU.off{w:World}{t:Option (Nat × Nat)}(h:UU w t){b o:Nat}{v:Value}(hc:w.cell? ⟨b,o,none⟩=some v)(hv:(∀ A n c,v≠.slice A n c)/\∀ m,v≠.map m):NT t w.heap.size b:=by
 refine ⟨Zv hc,?_⟩;rintro u rfl;refine ⟨fun e=>?_,fun e=>?_⟩
 · have hb:=h.1;rw [<- e] at hb;rw [cell_of_row w b o _ _ (0,0) hb] at hc;rcases o with _|_|o
   · simp at hc;exact hv.1 _ _ _ hc.symm
   · simp at hc;exact hv.2 _ hc.symm
   · simp at hc
 · have hm:=h.2;rw [<- e] at hm;obtain ⟨es,clock,hh,_⟩:=hm;simp [World.cell?,hh] at hc
theorem wF(w:World):Calls prog 29 #[] w fun e w'=>e=.returned (.pointer (Zu (newT w)))/\Below w.heap.size w w'/\UU w' (newT w):=by
 have hmm:=@run_makeMap prog;go_enter func29,ntmps29;go_wp2;go_ret;refine ⟨rfl,Z7 (bA) _,?_,(World.ownsMap_made w prog 3 (plainElem prog 3)).alloc _⟩;have h:=Z6.new (w.alloc (.map #[] 0)) 99 #[.slice none 0 0,.map (some w.heap.size)];rw [World.size_alloc] at h;exact h
theorem UU.bV{w:World}{t:Option (Nat × Nat)}(h:UU w t){B:Nat}{A:Option Addr}{xs:List Value}(hs:Sl w B A xs)(hx:∀ v,xs[0]?=some v->(∀ A n c,v≠.slice A n c)/\∀ m,v≠.map m):U2 w (NT t w.heap.size) A xs:=by
 rcases hs with h0|⟨b,off,hA,hb,hc⟩
 · exact .inl h0
 · cases xs with
   | nil=>exact .inl rfl
   | cons x xs=>exact .inr ⟨b,off,hA,h.off (hc 0 x rfl) (hx x rfl),hc⟩
theorem yV(rs:List Rg):∀ v,(rgCells rs)[0]?=some v->(∀ A n c,v≠.slice A n c)/\∀ m,v≠.map m:=by
 intro v hv;cases rs with
 | nil=>simp [rgCells] at hv
 | cons r rs=>simp [rgCells,Rg.cells] at hv;subst hv;exact ⟨fun _ _ _ h=>(by cases h),fun _ h=>(by cases h)⟩
theorem yP(ps:List (Int × Int)):∀ v,(Zc ps)[0]?=some v->(∀ A n c,v≠.slice A n c)/\∀ m,v≠.map m:=by
 intro v hv;cases ps with
 | nil=>simp [Zc] at hv
 | cons r rs=>simp [Zc] at hv;subst hv;exact ⟨fun _ _ _ h=>(by cases h),fun _ h=>(by cases h)⟩
theorem kR(ps:List ((Int × Int) × Int)):∀ v,(Vs ps)[0]?=some v->(∀ A n c,v≠.slice A n c)/\∀ m,v≠.map m:=by
 intro v hv;cases ps with
 | nil=>simp [Vs] at hv
 | cons r rs=>simp [Vs] at hv;subst hv;exact ⟨fun _ _ _ h=>(by cases h),fun _ h=>(by cases h)⟩
theorem IW(bs:List Int)(n:Nat):Tq (Xm bs n):=by
 intro p hp;obtain ⟨i,_,rfl⟩:=List.mem_map.1 hp;unfold Ul U9 wrap64;exact ⟨⟨by dsimp only;omega,by dsimp only;omega⟩,by dsimp only;omega,by dsimp only;omega⟩
theorem KT:∀ (rs:List Rg) (bs:List Int),∀ g∈XK rs bs,Tq g.2.2/\g.2.2.length<=10000
 | [],_,g,hg=>by cases hg
 | r::rs,bs,g,hg=>by
   unfold XK at hg;rcases List.mem_cons.1 hg with rfl|hg
   · exact ⟨IW _ _,by rw [YT];exact Nat.le_trans (Ph _) (by decide)⟩
   · exact KT rs _ g hg
theorem le8{l:List Int}(hb:By l)(hl:l.length<=8):Uf (le l):=by
 obtain ⟨b0,b1⟩:=DX l hb;generalize le l=L at b0 b1;generalize l.length=k at hl b1;have hk:k=0\/k=1\/k=2\/k=3\/k=4\/k=5\/k=6\/k=7\/k=8:=by omega
 exact ⟨b0,by rcases hk with rfl|rfl|rfl|rfl|rfl|rfl|rfl|rfl|rfl <;> simp at b1 <;> omega⟩
theorem Tz{bs:List Int}{q:Rq}(hby:By bs)(hd:Zz bs=(q,0)):Tq q.ps/\(∀ x∈q.qs,PJ x.1/\Uf x.2)/\(∀ g∈q.gs,Tq g.2.2/\g.2.2.length<=10000)/\ZT q.h.op q.h.vs q.h.rs q.h.Z0=0:=by
 unfold Zz at hd
 by_cases hc:Zb bs=0
 · rw [if_pos hc] at hd;have hq:Uc (ZW bs).1 (bs.drop (ZW bs).2.1.toNat)=q:=congrArg Prod.fst hd;obtain ⟨⟨h,n,er⟩,hp⟩:∃ r,r=ZW bs:=⟨_,rfl⟩;obtain ⟨_,z2,_⟩:=Tx hp.symm hc;rw [<- hp] at hq;subst hq;refine ⟨IW _ _,fun x hx=>?_,KT _ _,z2⟩;obtain ⟨i,_,rfl⟩:=List.mem_map.1 hx;refine ⟨?_,?_⟩
   · unfold VQ U9 wrap64;exact ⟨⟨by dsimp only;omega,by dsimp only;omega⟩,by dsimp only;omega,by dsimp only;omega⟩
   · unfold VQ;dsimp only;exact le8 (((hby.drop _).drop _).drop _ |>.take _) (by unfold eight;rw [List.length_take];omega)
 · rw [if_neg hc] at hd;exact absurd (congrArg Prod.snd hd) hc
theorem Oq(eb ob:Nat)(er:Int)(v:Value)(w:World)(hE:Z6 w eb 28 #[.int .i64 er])(hO:Z6 w ob 36 #[v])(h0:0<=er)(h1:er<=255)(u:FrameMode):
 CallsD prog 57 #[.pointer (some ⟨eb,0,none⟩),.pointer (some ⟨ob,0,none⟩)] u w fun e u' w'=>u'=u/\e=.returned (.tuple #[]) /\
  (er=0/\w'=w\/er≠0/\w'=(w.alloc (.cells #[.int .u8 er] 5)).setCell ⟨ob,0,none⟩ (.slice (some ⟨w.heap.size,0,none⟩) 1 1)):=by
 have e0:=hE.q0 rfl;have o0:=(hO.alloc (.cells #[.int .u8 er] 5)).q0 rfl;have f0:=(hO.alloc (.cells #[.int .u8 er] 5)).frozen 0;have hw8:IntKind.u8.wrap er=er:=by rw [IntKind.wrap_u8];omega
 by_cases he:er=0
 · subst he;refine (callsD_of_wp (R:=fun e w'=>e=.returned (.tuple #[])/\w'=w) func57 rfl ?_).mono ?_
   · simp only [ntmps57,List.size_toArray,List.length_cons,List.length_nil,Nat.reduceAdd,Nat.reduceSub,Array.replicate_succ,Array.replicate_zero,List.push_toArray,List.append_toArray,List.nil_append,List.cons_append];go_wp2;go_end0;exact ⟨rfl,rfl⟩
   · rintro e u' w' ⟨rfl,rfl,rfl⟩;exact ⟨rfl,rfl,.inl ⟨rfl,rfl⟩⟩
 · refine (callsD_of_wp (R:=fun e w'=>e=.returned (.tuple #[])/\w'=(w.alloc (.cells #[.int .u8 er] 5)).setCell ⟨ob,0,none⟩ (.slice (some ⟨w.heap.size,0,none⟩) 1 1)) func57 rfl ?_).mono ?_
   · simp only [ntmps57,List.size_toArray,List.length_cons,List.length_nil,Nat.reduceAdd,Nat.reduceSub,Array.replicate_succ,Array.replicate_zero,List.push_toArray,List.append_toArray,List.nil_append,List.cons_append];have e1:=(hE.alloc (.cells #[.int .u8 er] 5)).q0 rfl;go_wp2;go_end0;exact ⟨rfl,rfl⟩
   · rintro e u' w' ⟨rfl,rfl,rfl⟩;exact ⟨rfl,rfl,.inr ⟨he,rfl⟩⟩
def zmg(r:PH × Int × Int):Prop:=0<=r.2.2/\r.2.2<=8
theorem Ik(bs:List Int):0<=Zb bs/\Zb bs<=8:=by
 have h:zmg (ZW bs):=by
  unfold ZW
  repeat' (refine Yp (fun _=>?_) (fun _=>?_))
  all_goals exact ⟨by dsimp only;omega,by dsimp only;omega⟩
 unfold Zb;unfold zmg at h;split
 · split <;> omega
 · exact h
def Nu(t:Option (Nat × Nat))(bs:List Int)(w:World)(e:Ending)(w':World):Prop :=
 ∃ A c,e=.returned (.slice A (Xj bs).length c)/\(Xj bs).length<=c/\Z8 (NT t w.heap.size) w w'/\Tp w' (NT t w.heap.size) t (XC bs)/\Sl w' w'.heap.size A (ZY (Xj bs))
theorem Ck (t:Option (Nat × Nat)) (bs:List Int) (A:Option Addr) (c:Nat) (w:World) (hs:Sl w w.heap.size A (ZY bs)) (hcap:bs.length<=c) (hby:By bs) (hmax:bs.length<=300000) (hfix:Fixed w) (hg:1<w.heap.size) (hw:MW w) (hf:UU w t)
 (hl:t=none\/4161*(Zz bs).1.qs.length+(YZ (lg (Zz bs).1.qs.length)).length<=600000) :
 Calls prog 30 #[.pointer (Zu t),.slice A bs.length c] w (Nu t bs w):=by
 obtain ⟨ob,Sj⟩:=eE w.heap.size;obtain ⟨w0,hw0⟩:=eE ((w.alloc (.cells #[.slice none 0 0] 36)).alloc (.cells #[.int .i64 0] 28));have hb0:=bF hw0;have O0:Z6 w0 ob 36 #[.slice none 0 0]:=by rw [hw0,Sj];exact (Z6.new _ _ _).alloc _
 have E0:Z6 w0 (ob+1) 28 #[.int .i64 0]:=by rw [hw0,Sj];exact Z6.new2 _ _ _ _
 have HD:=hide (zH bs A c w0 ((hs.below hb0).more hb0.size) hcap hby hmax (hfix.below hb0 hg) (Nat.lt_of_lt_of_le hg hb0.size));have hmf:∀ (fn:Fn) (first cap:Array Value) (w:World),(Instr.makeFunc fn first cap).run prog w=.ok (.func fn first cap) w:=fun _ _ _ _=>rfl
 have ziz:Hid (∀ n,ob+1<n->NT t n ob/\NT t n (ob+1)):=fun n hn=>by
  refine ⟨⟨by omega,?_⟩,by omega,?_⟩
  · rintro u rfl;have h1:=hf.1.lt;have h2:=hf.2.lt;exact ⟨by omega,by omega⟩
  · rintro u rfl;have h1:=hf.1.lt;have h2:=hf.2.lt;exact ⟨by omega,by omega⟩
 have dM:Hid (¬ NT t w.heap.size ob/\¬ NT t w.heap.size (ob+1)):=⟨fun h=>by have:=h.1;omega,fun h=>by have:=h.1;omega⟩;have HF:=hide hf;have HW:=hide hw;have HB0:=hide hb0;have HO0:=hide O0;have HE0:=hide E0;have HL:=hide hl;have hcb:=Ik bs;have HFG:=hide hg;have HFX:=hide hfix;clear hfix hg hf hw hb0 O0 E0 hl hs hcap
 by_cases hc:Zb bs=0
 · obtain ⟨q,hq⟩:∃ q,Zz bs=(q,0):=⟨_,by unfold Zz;rw [if_pos hc]⟩;obtain ⟨dj1,vg,dj3,dj4⟩:=Tz hby hq;obtain ⟨z1,z2,z3,z4,z5,z6,z7,z8,_⟩:=Zp dj4;have zpd:q.h.rs.length<=64:=by
    by_cases h4:4<=q.h.op
    · exact (z5 h4).2.1
    · rw [z6 (by omega)];simp
   have hsv:Xj bs=YB q.h.op (WO q).val (WO q).cnt (WO q).recs:=(by unfold Xj;rw [hq,if_neg (by simp)]);have hse:XC bs=aU q:=by unfold XC;rw [hq,if_neg (by simp)]
   have HSD:Hid (∀ e w',(∃ A c,e=.returned (.slice A (YB q.h.op (WO q).val (WO q).cnt (WO q).recs).length c)/\(YB q.h.op (WO q).val (WO q).cnt (WO q).recs).length<=c/\Z8 (NT t w.heap.size) w w'/\Tp w' (NT t w.heap.size) t (aU q)/\Sl w' w'.heap.size A (ZY (YB q.h.op (WO q).val (WO q).cnt (WO q).recs)))->Nu t bs w e w'):=fun e w' h=>by
    unfold Nu;rw [hsv,hse];exact h
   have Uo:Hid (∀ hrs gs,hrs.map Rg.key=q.h.rs.map Rg.key->gs.map PU=q.gs->(∀ g∈gs,g.1.n=g.2.length)->WT q.h.op q.h.vs hrs q.h.Z0 gs q.ps q.qs=(WO q,0)/\Wh q.h.op q.h.vs hrs q.h.Z0 gs q.ps q.qs=aU q/\Wm q.h.op q.h.Z0 (WO q).val (WO q).cnt (WO q).recs=true/\ZT q.h.op q.h.vs hrs q.h.Z0=0) :=
    fun hrs gs hk hgd hn=>QG (by rw [LB hby hq hk hgd hn]) hn (fun x hx=>(vg x hx).2) rfl hgd.symm rfl rfl
   rw [hq] at HD HL;have HDJ:=hide (And.intro dj1 (And.intro vg dj3));have HQL:=hide zpd;have dN:=hide (And.intro z7 z8);clear hq hsv hse hby hmax hc hcb dj1 vg dj3 dj4 z1 z2 z3 z4 z5 z6 z7 z8 zpd;obtain ⟨⟨op,vs,ug,Z0⟩,gds,ps,qs⟩:=q;dsimp only at *;go_enter_defers func30,ntmps30;go_wp2_with fail;rw [<- hw0,<- Sj];have HW0:=hide hw0;have HOB:=hide Sj;clear hw0 Sj;refine HD.out.mono ?_;rintro e w1 ⟨hrs,HA,hc2,gs,GA,gc,PA,pc,QA,qc,rfl,hb1,hr1,hcap1⟩;unfold Nj;dsimp only;obtain ⟨hh,hkey,hgg,hgk,hgd,hpp,hqq⟩:=hr1;dsimp only at hkey hgd hpp hqq hcap1;have hn:∀ g∈gs,g.1.n=g.2.length:=fun g hg=>(hgk g hg).1;obtain ⟨k1,k2,k3,k4⟩:=Uo.out hrs gs hkey hgd hn;have hhl:hrs.length<=64:=(by have:=congrArg List.length hkey;simp at this;have:=HQL.out;omega);have E1:=HE0.out.step hb1;have O1:=HO0.out.step hb1;have hB1:=Z9 HB0.out hb1;have hf1:=HF.out.step hB1;obtain ⟨rb,hrb⟩:=eE w1.heap.size;obtain ⟨W3,hW3⟩:=eE ((w1.setCell ⟨ob+1,0,none⟩ (.int .i64 0)).alloc (.cells #[.int .i64 op,.int .i64 vs,.slice HA hrs.length hc2,.int .i64 Z0,.slice GA gs.length gc,.slice PA ps.length pc,.slice QA qs.length qc] 100));have e1:w1.cell? ⟨ob+1,0,none⟩=some (.int .i64 0):=E1.q0 rfl;have fe1:=E1.frozen 0;have hl1:ob+1<w1.heap.size:=E1.lt;have hl0:ob<w1.heap.size:=O1.lt;have hro:w.heap.size<=ob:=(by rw [HOB.out];exact Nat.le_refl _);have hB3:Below w.heap.size w W3:=(by rw [hW3];exact Z7 (hB1.setCell (p:=⟨ob+1,0,none⟩) (by dsimp only;omega) _) _);have hz3:W3.heap.size=rb+1:=by rw [hW3,hrb];simp
   have hsame:∀ b o,b<w1.heap.size->W3.cell? ⟨b,o,none⟩=w1.cell? ⟨b,o,none⟩:=fun b o hb=>by
    rw [hW3,World.cell?_alloc_lt _ _ _ (by simpa using hb),Tw e1]
   have vT:∀ {A:Option Addr} {xs:List Value},Sl w1 w1.heap.size A xs->Sl W3 w1.heap.size A xs:=fun {A xs} h=>by
    rcases h with h|⟨b,off,hA,hb,hcc⟩
    · exact .inl h
    · exact .inr ⟨b,off,hA,hb,fun j u hu=>(hsame b _ hb).trans (hcc j u hu)⟩
   have hf3:=HF.out.step hB3;have Q3:Z6 W3 rb 100 #[.int .i64 op,.int .i64 vs,.slice HA hrs.length hc2,.int .i64 Z0,.slice GA gs.length gc,.slice PA ps.length pc,.slice QA qs.length qc]:=by
    have h:=Z6.new (w1.setCell ⟨ob+1,0,none⟩ (.int .i64 0)) 100 #[.int .i64 op,.int .i64 vs,.slice HA hrs.length hc2,.int .i64 Z0,.slice GA gs.length gc,.slice PA ps.length pc,.slice QA qs.length qc];rw [World.size_setCell,<- hrb,<- hW3] at h;exact h
   have E3:Z6 W3 (ob+1) 28 #[.int .i64 0]:=(by rw [hW3];exact (E1.set 0 (.int .i64 0)).alloc _);have O3:Z6 W3 ob 36 #[.slice none 0 0]:=(by rw [hW3];exact (O1.far (p:=⟨ob+1,0,none⟩) (by dsimp only;omega) _).alloc _);have zow:∀ k,NT t w.heap.size k->NT t W3.heap.size k:=fun k hk=>⟨Nat.lt_of_lt_of_le hk.1 hB3.size,hk.2⟩;have zxe:∀ k,NT t W3.heap.size k->k<W3.heap.size:=fun k hk=>hk.1;have hmem:=ziz.out W3.heap.size (by rw [hz3];omega)
   have zpf:NT t W3.heap.size rb:=⟨by omega,by
    rintro u rfl;have h1:=HF.out.1.lt;have h2:=HF.out.2.lt
    exact ⟨by omega,by omega⟩⟩
   have hw3:=HW.out.step hB3;have hwm:NT t W3.heap.size 3:=hf3.off hw3.1.1 ⟨fun _ _ _ h=>(by cases h),fun _ h=>(by cases h)⟩
   have Au:CV W3 (NT t W3.heap.size) hrs HA gs GA ps PA pc qs QA :=
    ⟨hf3.bV (vT hh) (yV _),by unfold maxLen;omega,hf3.bV (vT hgg) (yV _),fun g hg=>⟨hn g hg,hf3.bV (vT (hgk g hg).2) (yP _),HDJ.out.2.2 (PU g) (by rw [<- hgd];exact List.mem_map_of_mem hg)⟩,hf3.bV (vT hpp) (yP _),HDJ.out.1,hcap1,hf3.bV (vT hqq) (kR _),fun x hx=>(HDJ.out.2.1 x hx).1,fun x hx=>(HDJ.out.2.1 x hx).2⟩
   have zvv:=Ae (NT t W3.heap.size) t [] op vs Z0 hrs HA hc2 gs GA gc ps PA pc qs QA qc W3 zxe hwm hw3 (hf3.tp fun k hk=>hk.2) (by rcases HL.out with h|h;exact .inl h;exact .inr (by simp only [List.length_nil];omega)) Au;rw [k1,k2,List.nil_append] at zvv;have HHD:=hide zvv;have HHS:Hid (U2 W3 (NT t W3.heap.size) HA (rgCells hrs)):=Au.hh;obtain ⟨⟨val,cnt,recs⟩,hqa⟩:∃ a,a=WO ⟨⟨op,vs,ug,Z0⟩,gds,ps,qs⟩:=⟨_,rfl⟩;rw [<- hqa] at k3 HHD HSD;dsimp only at k3;have hp0:0<=Z0:=by
    by_cases h5:op=5
    · have:=dN.out.1 h5;omega
    · have:=dN.out.2 h5;omega
   have hp1:Z0<=4096:=by
    by_cases h5:op=5
    · have:=dN.out.1 h5;omega
    · have:=dN.out.2 h5;omega
   have hia:=SQ k3 hp0;have yA:XM op vs hrs Z0 val cnt recs=(YB op val cnt recs,0):=(by unfold XM;rw [if_neg (by simpa using k4),if_neg (by simp [k3])]);have mg:Hid (recs.length<=maxLen):=(by unfold maxLen;exact (by omega:recs.length<=9223372036854775807));have zng:=hide yA;obtain ⟨EV,hEV⟩:=eE (aU ⟨⟨op,vs,ug,Z0⟩,gds,ps,qs⟩);rw [<- hEV] at HHD HSD;obtain ⟨RB,hRB⟩:=eE (YB op val cnt recs);rw [<- hRB] at HSD zng;have c0:=Q3.q0 rfl;have HW3:=hide hW3;have JL:=hide hrb;have HQ3:=hide Q3;have HE3:=hide E3;have HO3:=hide O3;have HB3:=hide hB3;have zwa:=hide zow;have uF:=hide hmem;have zjc:=hide zpf;have zmv:=hide zxe;have HHL:=hide hhl;have HZ3:=hide hz3;clear hqa hEV hRB yA hia k1 k2 k3 k4 zvv Au hwm hw3 zpf hmem zxe zow hf3 vT hsame hB1 hf1 hb1 hh hkey hgg hgk hgd hpp hqq hn E1 O1 E3 O3 hB3 hz3 hcap1 Uo HD HDJ;go_wp2_with fail;have zkn:=JL.out;subst zkn;rw [<- HW3.out];refine HHD.out.mono ?_;rintro e w4 ⟨RA,rc,rfl,hk4,Jz,hs4⟩;dsimp only at hs4;have E4:=HE3.out.kept hk4 uF.out.2;have O4:=HO3.out.kept hk4 uF.out.1;have Q4:=HQ3.out.kept hk4 zjc.out;have e4:w4.cell? ⟨ob+1,0,none⟩=some (.int .i64 0):=E4.q0 rfl;have fe4:=E4.frozen 0;have q0:=Q4.q0 rfl;have q1:=Q4.q1 rfl;have q2:=Q4.q2 rfl;have q3:=Q4.q3 rfl;have hl4:ob+1<w4.heap.size:=E4.lt;have zgz:ob<w4.heap.size:=O4.lt;have zha:w1.heap.size<w4.heap.size:=Q4.lt;obtain ⟨W5,Ad⟩:=eE ((w4.setCell ⟨ob+1,0,none⟩ (.int .i64 0)).alloc (.cells #[.int .i64 val,.int .i64 cnt,.slice RA recs.length rc] 103))
   have Av:∀ b o,b<w4.heap.size->W5.cell? ⟨b,o,none⟩=w4.cell? ⟨b,o,none⟩:=fun b o hb=>by
    rw [Ad,World.cell?_alloc_lt _ _ _ (by simpa using hb),Tw e4]
   have hz5:W5.heap.size=w4.heap.size+1:=(by rw [Ad];simp);have zpm:Sl W5 W5.heap.size RA (Zt recs):=by
    rcases hs4 with h|⟨b,off,hA,hb,hcc⟩
    · exact .inl h
    · exact .inr ⟨b,off,hA,by omega,fun j u hu=>(Av b _ hb).trans (hcc j u hu)⟩
   have zpl:Sl W5 W5.heap.size HA (rgCells hrs):=by
    have h4:=(HHS.out.kept hk4).sl (fun k hk=>Nat.lt_of_lt_of_le (zmv.out k hk) hk4.size);rcases h4 with h|⟨b,off,hA,hb,hcc⟩
    · exact .inl h
    · exact .inr ⟨b,off,hA,by omega,fun j u hu=>(Av b _ hb).trans (hcc j u hu)⟩
   have E5:Z6 W5 (ob+1) 28 #[.int .i64 0]:=(by rw [Ad];exact (E4.set 0 (.int .i64 0)).alloc _);have O5:Z6 W5 ob 36 #[.slice none 0 0]:=(by rw [Ad];exact (O4.far (p:=⟨ob+1,0,none⟩) (by dsimp only;omega) _).alloc _);have hnE:¬ NT t w.heap.size (ob+1):=dM.out.2;have hnO:¬ NT t w.heap.size ob:=dM.out.1;have CB:∀ k,NT t w.heap.size k->k<w4.heap.size:=fun k hk=>Nat.lt_of_lt_of_le (zmv.out k (zwa.out k hk)) hk4.size;have hk5:Z8 (NT t w.heap.size) w W5:=by
    rw [Ad];refine ((Z8.of_below HB3.out fun k hk=>hk.1).trans ((hk4.mono zwa.out).trans (Z8.setCell hnE _ _ _))).trans (Z8.of_below (bA) fun k hk=>by simpa using CB k hk)
   have Rf:Tp W5 (NT t W3.heap.size) t EV:=(by rw [Ad];exact (Jz.set uF.out.2 _ _).step (bA));have zwe:=Et op vs Z0 hrs HA hc2 val cnt recs RA rc W5 zpl (by unfold maxLen;have:=HHL.out;omega) zpm mg.out;rw [zng.out] at zwe;have HRS:=hide zwe;have HW5:=hide Ad;have HE5:=hide E5;have HO5:=hide O5;have HK5:=hide hk5;have HT5:=hide Rf;have HZ5:=hide hz5;clear E4 O4 Q4 hk4 Jz hs4 Av zpm zpl E5 O5 hnE hnO CB hk5 Rf zwe hz5 e1 fe1 c0 HHD;go_wp2_with fail;rw [<- HW5.out];refine HRS.out.mono ?_;rintro e w6 ⟨v,rfl,hv6,hb6⟩;obtain ⟨VA,Um,rfl,hvc⟩:=ZJ hv6;dsimp only at hvc;have E6:=HE5.out.step hb6;have O6:=HO5.out.step hb6;have e6:w6.cell? ⟨ob+1,0,none⟩=some (.int .i64 0):=E6.q0 rfl;have fe6:=E6.frozen 0;have o6:=O6.q0 rfl;have fo6:=O6.frozen 0;have zpk:=Sl.YI hv6
   have zpq:ZY RB≠[]->∀ x,VA=some x->x.block≠ob/\x.block≠ob+1:=fun _ x hx=>by
    subst hx;have h:=ZP hv6 (k:=x.block) (by rcases hv6.2 with ⟨h,_⟩|⟨g',cap,cur,h,_⟩ <;> cases h;rfl);have:=HZ5.out;exact ⟨by omega,by omega⟩
   have HE6:=hide E6;have HO6:=hide O6;have fM:=hide hb6;have zje:=hide zpk;have HVC:=hide hvc;have zwj:=hide zpq;clear E6 O6 hb6 zpk hv6 hvc zpq q0 q1 q2 q3 e4 fe4 HRS;go_wp2;obtain ⟨W7,Pv⟩:=eE ((((w6.setCell ⟨ob,0,none⟩ (.slice VA RB.length Um)).setCell ⟨ob+1,0,none⟩ (.int .i64 0)).setCell ⟨ob,0,none⟩ (.slice VA RB.length Um)));rw [<- Pv];have E7:Z6 W7 (ob+1) 28 #[.int .i64 0]:=by
    rw [Pv];exact (((HE6.out.far (p:=⟨ob,0,none⟩) (by dsimp only;omega) _).set 0 (.int .i64 0)).far (p:=⟨ob,0,none⟩) (by dsimp only;omega) _)
   have O7:Z6 W7 ob 36 #[.slice VA RB.length Um]:=by
    rw [Pv];exact ((HO6.out.set 0 (.slice VA RB.length Um)).far (p:=⟨ob+1,0,none⟩) (by dsimp only;omega) _).set 0 (.slice VA RB.length Um)
   refine leaves_cons (f:=57) (args:=#[.pointer (some ⟨ob+1,0,none⟩),.pointer (some ⟨ob,0,none⟩)]) (by simp) (by simp [go_sem,invoke]) ?_;refine (Oq (ob+1) ob 0 _ W7 E7 O7 (by omega) (by omega) .returning).mono ?_;rintro e u' w' ⟨rfl,rfl,h⟩;rcases h with ⟨_,rfl⟩|⟨h,_⟩
   · have o7:=O7.q0 rfl;have R7:∀ k,NT t w.heap.size k->k<W5.heap.size:=fun k hk=>Nat.lt_of_lt_of_le hk.1 HK5.out.size;refine ⟨.slice VA RB.length Um,by simp [results,Tryz.results30,go_sem,o7],?_⟩;refine HSD.out _ _ ⟨VA,Um,rfl,HVC.out,?_,?_,?_⟩
     · rw [Pv];exact (HK5.out.trans (Z8.of_below fM.out R7)).trans ((Z8.setCell dM.out.1 _ _ _).trans ((Z8.setCell dM.out.2 _ _ _).trans (Z8.setCell dM.out.1 _ _ _)))
     · rw [Pv];exact ((((HT5.out.step fM.out).set uF.out.1 _ _).set uF.out.2 _ _).set uF.out.1 _ _).mono zwa.out
     · rw [Pv];exact (((zje.out.TM (fun h x hx=>(zwj.out h x hx).1) _).TM (fun h x hx=>(zwj.out h x hx).2) _).TM (fun h x hx=>(zwj.out h x hx).1) _)
   · exact absurd rfl h
 · have hd:Zz bs=(Yk,Zb bs):=(by unfold Zz;rw [if_neg hc]);have hsv:Xj bs=[Zb bs]:=(by unfold Xj;rw [hd,if_pos hc]);have hse:XC bs=[]:=by unfold XC;rw [hd,if_pos hc]
   have HSD:Hid (∀ e w',(∃ A c,e=.returned (.slice A 1 c)/\1<=c/\Z8 (NT t w.heap.size) w w'/\Tp w' (NT t w.heap.size) t []/\Sl w' w'.heap.size A (ZY [Zb bs]))->Nu t bs w e w'):=fun e w' h=>by
    unfold Nu;rw [hsv,hse];exact h
   rw [hd] at HD;obtain ⟨er,her⟩:=eE (Zb bs);rw [<- her] at hc hcb HSD HD;clear hd hsv hse her hby hmax;go_enter_defers func30,ntmps30;go_wp2_with fail;rw [<- hw0,<- Sj];have HW0:=hide hw0;have HOB:=hide Sj;clear hw0 Sj;refine HD.out.mono ?_;rintro e w1 ⟨hrs,HA,hc2,gs,GA,gc,PA,pc,QA,qc,rfl,hb1,hr1,_⟩;unfold Nj;dsimp only;have E1:=HE0.out.step hb1;have O1:=HO0.out.step hb1;have e1:=E1.q0 rfl;have fe1:=E1.frozen 0;have o1:=O1.q0 rfl;have fo1:=O1.frozen 0;have hB1:=hide (Z9 HB0.out hb1);have NZ:=hide E1;have gG:=hide O1;have hl1:ob+1<w1.heap.size:=E1.lt;have hl0:ob<w1.heap.size:=O1.lt;clear hb1 hr1 E1 O1 HD;go_wp2;obtain ⟨W5,Ad⟩:=eE ((((w1.setCell ⟨ob+1,0,none⟩ (.int .i64 er)).setCell ⟨ob,0,none⟩ (.slice none 0 0)).alloc (.cells #[.int .i64 Yk.h.op,.int .i64 Yk.h.vs,.slice HA hrs.length hc2,.int .i64 Yk.h.Z0,.slice GA gs.length gc,.slice PA Yk.ps.length pc,.slice QA Yk.qs.length qc] 100)));rw [<- Ad];have E5:Z6 W5 (ob+1) 28 #[.int .i64 er]:=by
    rw [Ad];exact ((NZ.out.set 0 (.int .i64 er)).far (p:=⟨ob,0,none⟩) (by dsimp only;omega) _).alloc _
   have O5:Z6 W5 ob 36 #[.slice none 0 0]:=by
    rw [Ad];exact ((gG.out.far (p:=⟨ob+1,0,none⟩) (by dsimp only;omega) _).set 0 (.slice none 0 0)).alloc _
   have mH:Below w.heap.size w W5:=by
    rw [Ad];have hr:w.heap.size<=ob:=(by rw [HOB.out];exact Nat.le_refl _);exact Z7 ((hB1.out.setCell (p:=⟨ob+1,0,none⟩) (by dsimp only;omega) _).setCell (p:=⟨ob,0,none⟩) hr _) _
   refine leaves_cons (f:=57) (args:=#[.pointer (some ⟨ob+1,0,none⟩),.pointer (some ⟨ob,0,none⟩)]) (by simp) (by simp [go_sem,invoke]) ?_;refine (Oq (ob+1) ob er _ W5 E5 O5 hcb.1 (by omega) .returning).mono ?_;rintro e u' w' ⟨rfl,rfl,h⟩;rcases h with ⟨h,_⟩|⟨_,rfl⟩
   · exact absurd h hc
   have O6:=(O5.alloc (.cells #[.int .u8 er] 5)).set 0 (.slice (some ⟨W5.heap.size,0,none⟩) 1 1);have o6:=O6.q0 rfl;have zhi:=O5.lt;have hr:w.heap.size<=ob:=(by rw [HOB.out];exact Nat.le_refl _);have hB6:=(Z7 mH (.cells #[.int .u8 er] 5)).setCell (p:=⟨ob,0,none⟩) hr (.slice (some ⟨W5.heap.size,0,none⟩) 1 1);refine ⟨.slice (some ⟨W5.heap.size,0,none⟩) 1 1,by simp [results,Tryz.results30,go_sem,o6],?_⟩;have hnt:∀ k,NT t w.heap.size k->k<w.heap.size:=fun k hk=>hk.1;refine HSD.out _ _ ⟨some ⟨W5.heap.size,0,none⟩,1,rfl,Nat.le_refl _,Z8.of_below hB6 hnt,(HF.out.tp fun k hk=>hk.2).step hB6,?_⟩;refine (Sl.Pg (Ui (Z6.new W5 5 #[.int .u8 er]) fun j u hu=>?_) (by omega) _);rw [<- hu];show ([.int .u8 er]:List Value).toArray[j]?=_;rw [List.getElem?_toArray];rfl
end
section
open Go.RowKit Go.Shelf
theorem znq(x:Gd):PU (cg x)=x:=rfl
theorem FJ(l:List Gd):(l.map cg).map PU=l:=by
 rw [List.map_map];exact (List.map_congr_left fun x _=>znq x).trans (List.map_id l)
theorem xg{bs:List Int}(hc:Zb bs≠0):Xj bs=[Zb bs]:=by
 have hd:Zz bs=(Yk,Zb bs):=by unfold Zz;rw [if_neg hc]
 unfold Xj;rw [hd,if_pos hc]
end
end Go.Proofs.YtfljlmleiggmjaaGreatDoor