/- Handle ServeMath Serve Alive21 Req21 -/
import Derived.BigQuiet
import Derived.Deep.QuietTactic
import Derived.Defers
import Derived.Lib.SliceRun
import Derived.Test.YthnenedoblncjaaGreatDoorPkA08
import Derived.Test.YthnenedoblncjaaGreatDoorPkA10
import Derived.Test.YthnenedoblncjaaGreatDoorPkA36
import Derived.Test.YthnenedoblncjaaGreatDoorPkA37
set_option maxRecDepth 1000000
set_option maxHeartbeats 8000000
namespace Go.Proofs.YthnenedoblncjaaGreatDoor
open Go.Proofs.Tryz
section
open Go.RowKit Go.Shelf
structure EH(w:World)(P:Nat->Prop)(hrs:List Rg)(HA:Option Addr)(gs:List Gr)(GA:Option Addr)(ps:List Pt)(PA:Option Addr)(pc:Nat)(qs:List ((Int × Int) × Int))(QA:Option Addr):Prop where
 hh:UU w P HA (rgCells hrs)
 hn:hrs.length<=maxLen
 hg:UU w P GA (rgCells (gs.map (·.1)))
 gk:zW w P gs
 hp:UU w P PA (Zg ps)
 pj:Ub ps
 cap:ps.length<=pc
 hq:UU w P QA (Wt qs)
 qj:∀ q∈qs,PJ q.1
 qu:∀ q∈qs,Vo q.2
theorem EH.kept{w w':World}{P R:Nat->Prop}{hrs:List Rg}{HA:Option Addr}{gs:List Gr}{GA:Option Addr}{ps:List Pt}{PA:Option Addr}{pc:Nat}{qs:List ((Int × Int) × Int)}{QA:Option Addr}(h:EH w P hrs HA gs GA ps PA pc qs QA)(hk:Z8 P w w')(hR:∀ k,P k->R k):EH w' R hrs HA gs GA ps PA pc qs QA :=
 ⟨(h.hh.kept hk).mono hR,h.hn,(h.hg.kept hk).mono hR,fun g hg=>⟨(h.gk g hg).1,((h.gk g hg).2.1.kept hk).mono hR,(h.gk g hg).2.2⟩,(h.hp.kept hk).mono hR,h.pj,h.cap,(h.hq.kept hk).mono hR,h.qj,h.qu⟩
theorem EH.l5{w:World}{P:Nat->Prop}{hrs:List Rg}{HA:Option Addr}{gs:List Gr}{GA:Option Addr}{ps:List Pt}{PA:Option Addr}{pc:Nat}{qs:List ((Int × Int) × Int)}{QA:Option Addr}(h:EH w P hrs HA gs GA ps PA pc qs QA){B:Nat}(hP:∀ k,P k->k<B):Ey w B gs :=
 fun g hg=>⟨(h.gk g hg).1,(h.gk g hg).2.1.sl hP⟩
def Xo(op vs:Int)(hrs:List Rg)(Z0:Int)(gs:List Gr)(ps:List Pt)(qs:List ((Int × Int) × Int)):qd × Int :=
 if (ZK op vs hrs Z0 gs ps qs).2≠0 then (Xk,(ZK op vs hrs Z0 gs ps qs).2) else if op=5 then YW gs qs else (⟨Yu op gs ps,0,[]⟩,0)
def Vt(op vs:Int)(hrs:List Rg)(Z0:Int)(gs:List Gr)(ps:List Pt)(qs:List ((Int × Int) × Int)):List Ev :=
 if (ZK op vs hrs Z0 gs ps qs).2≠0 then [] else if op=5 then Xl gs qs.length else Rs op gs ps
theorem rz (P:Nat->Prop) (t:Option (Nat × Nat)) (es:List Ev) (op vs Z0:Int) (hrs:List Rg) (HA:Option Addr) (hc:Nat) (gs:List Gr) (GA:Option Addr) (gc:Nat) (ps:List Pt) (PA:Option Addr) (pc:Nat) (qs:List ((Int × Int) × Int)) (QA:Option Addr) (qc:Nat) (w:World) (hP:∀ k,P k->k<w.heap.size) (hg0:P 8) (hw:MW w) (ht:Tp w P t es) (hl:t=none\/es.length<=600000)
 (h:EH w P hrs HA gs GA ps PA pc qs QA) :
 Calls prog 231 #[.pointer (Zz t),.agg #[.int .i64 op,.int .i64 vs,.slice HA hrs.length hc,.int .i64 Z0,.slice GA gs.length gc,.slice PA ps.length pc,.slice QA qs.length qc]] w fun e w'=>e=.returned (.tuple #[.agg #[.int .i64 (TA op vs hrs Z0 gs ps qs).1,.int .i64 0,.slice none 0 0],.int .i64 (TA op vs hrs Z0 gs ps qs).2])/\Z8 P w w'/\Tp w' P t (es++NK op vs hrs Z0 gs ps qs):=by
 rcases hl with rfl|hl
 · refine (Lb P none [] op vs Z0 hrs HA hc gs GA gc ps PA pc qs QA qc w hP hg0 hw trivial (by simp) h.pj h.hp h.cap h.hg h.gk h.hh h.hn (h.hq.sl hP)).mono ?_;rintro e w' ⟨h1,h2,_⟩;exact ⟨h1,h2,trivial⟩
 · exact Lb P t es op vs Z0 hrs HA hc gs GA gc ps PA pc qs QA qc w hP hg0 hw ht hl h.pj h.hp h.cap h.hg h.gk h.hh h.hn (h.hq.sl hP)
theorem Sl.Ur{w:World}{A:Option Addr}{xs:List Value}{b o:Nat}(h:Sl w w.heap.size A xs)(hne:xs≠[]->∀ x,A=some x->x.block≠b)(u:Value):Sl (w.setCell ⟨b,o,none⟩ u) (w.setCell ⟨b,o,none⟩ u).heap.size A xs :=
 (h.far (p:=⟨b,o,none⟩) hne u).more (by simp)
theorem QD {P Q:Nat->Prop} {t:Option (Nat × Nat)} {es' es2:List Ev} {r:qd × Int} {w w2:World} {g c:Nat} {A:Option Addr} {val cnt er:Int} {recs:List (Int × Int)} {u0 u1 u2:Value} (hr:r=(⟨val,cnt,recs⟩,er)) (he:es'=es2) (hk:Z8 P w w2) (hnp:¬ P g) (ht:Tp w2 Q t es2) (hg:Q g) (hsub:∀ k,P k->Q k)
 (hs:Sl w2 w2.heap.size A (ZA recs)) (hne:recs≠[]->∀ x,A=some x->x.block≠g) :
 Bf P t es' r w (.returned (.tuple #[.agg #[.int .i64 val,.int .i64 cnt,.slice A recs.length c],.int .i64 er])) (((w2.setCell ⟨g,0,none⟩ u0).setCell ⟨g,1,none⟩ u1).setCell ⟨g,2,none⟩ u2):=by
 subst hr;subst he;have hne':ZA recs≠[]->∀ x,A=some x->x.block≠g:=fun h=>hne fun e=>h (by rw [e];rfl);exact ⟨A,c,rfl,hk.trans ((Z8.setCell hnp _ _ _).trans ((Z8.setCell hnp _ _ _).trans (Z8.setCell hnp _ _ _))),(((ht.set hg _ _).set hg _ _).set hg _ _).mono hsub,((hs.Ur hne' _).Ur hne' _).Ur hne' _⟩
theorem Cr (P:Nat->Prop) (t:Option (Nat × Nat)) (es:List Ev) (op vs Z0:Int) (hrs:List Rg) (HA:Option Addr) (hc:Nat) (gs:List Gr) (GA:Option Addr) (gc:Nat) (ps:List Pt) (PA:Option Addr) (pc:Nat) (qs:List ((Int × Int) × Int)) (QA:Option Addr) (qc:Nat) (w:World) (hP:∀ k,P k->k<w.heap.size) (hg0:P 8) (hw:MW w) (ht:Tp w P t es) (hl:t=none\/es.length+4161*qs.length+(Xv (lg qs.length)).length<=600000)
 (hr:EH w P hrs HA gs GA ps PA pc qs QA) :
 Calls prog 165 #[.pointer (Zz t),.agg #[.int .i64 op,.int .i64 vs,.slice HA hrs.length hc,.int .i64 Z0,.slice GA gs.length gc,.slice PA ps.length pc,.slice QA qs.length qc]] w (Bf P t (es++Vt op vs hrs Z0 gs ps qs) (Xo op vs hrs Z0 gs ps qs) w):=by
 obtain ⟨rb,hrb⟩:=eE w.heap.size;obtain ⟨w0,hw0⟩:=eE ((w.alloc (.cells #[.int .i64 op,.int .i64 vs,.slice HA hrs.length hc,.int .i64 Z0,.slice GA gs.length gc,.slice PA ps.length pc,.slice QA qs.length qc] 182)).alloc (.cells #[.int .i64 0,.int .i64 0,.slice none 0 0] 175));have hb0:=bF hw0;have B0:Z6 w0 rb 182 #[.int .i64 op,.int .i64 vs,.slice HA hrs.length hc,.int .i64 Z0,.slice GA gs.length gc,.slice PA ps.length pc,.slice QA qs.length qc]:=by rw [hw0,hrb];exact (Z6.new _ _ _).alloc _
 have C0:Z6 w0 (rb+1) 175 #[.int .i64 0,.int .i64 0,.slice none 0 0]:=by rw [hw0,hrb];exact Z6.new2 _ _ _ _
 have hk0:Z8 P w w0:=Z8.of_below hb0 hP;have Pw:∀ k,P k->k<w0.heap.size:=fun k hk=>Nat.lt_of_lt_of_le (hP k hk) hb0.size;have hr0:=hr.kept hk0 (R:=P) fun k h=>h;have KZ:=Lx op vs Z0 hrs HA hc gs GA gc ps PA pc qs QA qc w0 (hr0.hh.sl Pw) (hr0.hg.sl Pw) (hr0.l5 Pw) (hr0.hp.sl Pw) (hr0.hq.sl Pw) hr.hn;have NG:Hid (Xo op vs hrs Z0 gs ps qs=if (ZK op vs hrs Z0 gs ps qs).2≠0 then (Xk,(ZK op vs hrs Z0 gs ps qs).2) else if op=5 then YW gs qs else (⟨Yu op gs ps,0,[]⟩,0)):=rfl;have Qx:Hid (Vt op vs hrs Z0 gs ps qs=if (ZK op vs hrs Z0 gs ps qs).2≠0 then [] else if op=5 then Xl gs qs.length else Rs op gs ps):=rfl;have HAV:Hid (TA op vs hrs Z0 gs ps qs=if (ZK op vs hrs Z0 gs ps qs).2≠0 then (0,(ZK op vs hrs Z0 gs ps qs).2) else if op=5 then (0,2) else (Yu op gs ps,0)):=rfl;have HAE:Hid (NK op vs hrs Z0 gs ps qs=if (ZK op vs hrs Z0 gs ps qs).2≠0 then [] else Rs op gs ps):=rfl;obtain ⟨⟨bs,err⟩,hE⟩:∃ E,E=ZK op vs hrs Z0 gs ps qs:=⟨_,rfl⟩;rw [<- hE] at KZ NG Qx HAV HAE;have kR:=hide KZ;have HP:=hide hP;have HG:=hide hg0;have HT:=hide ht;have HB0:=hide hb0;have HR:=hide hr;have HW:=hide hw;have HL:=hide hl;have Tq:Hid (¬ P (rb+1)):=fun h=>by have:=hP _ h;omega
 have HM:Hid (∀ k,Also (Also P rb) (rb+1) k->P k\/w.heap.size<=k):=fun k hk=>by
  rcases hk with (hk|hk)|hk
  · exact .inl hk
  · exact .inr (by omega)
  · exact .inr (by omega)
 clear hE KZ hk0 hP hg0 hw ht hr hb0 Pw hr0 hl;dsimp only at *;go_enter func165,ntmps165;go_wp2_with fail;rw [<- hw0,<- hrb];have HW0:=hide hw0;have Eo:=hide hrb;clear hw0 hrb;refine kR.out.mono ?_;rintro e w1 ⟨v,rfl,hv1,hb1⟩;have B1:=B0.step hb1;have C1:=C0.step hb1;have hB1:=Z9 HB0.out hb1;obtain ⟨VA,UN,rfl,_⟩:=Zl hv1;have hK1:Z8 P w w1:=Z8.of_below hB1 HP.out
 have hP1:∀ j,Also (Also P rb) (rb+1) j->j<w1.heap.size:=fun j hj=>by
  rcases hj with (hj|hj)|hj
  · exact Nat.lt_of_lt_of_le (HP.out j hj) hK1.size
  · subst hj;exact B1.lt
  · subst hj;exact C1.lt
 have ht1:Tp w1 (Also (Also P rb) (rb+1)) t es:=(HT.out.add HM.out).step hB1;have hsub:∀ k,P k->Also (Also P rb) (rb+1) k:=fun k h=>.inl (.inl h);have hr1:=HR.out.kept hK1 hsub;have hw1:=HW.out.kept hK1 HG.out;have c0:=B1.q0 rfl;have c1:=B1.q1 rfl;have c2:=B1.q2 rfl;have c3:=B1.q3 rfl;have c4:=B1.q4 rfl;have c5:=B1.q5 rfl;have c6:=B1.q6 rfl;have Bl:=hide hK1;have Ru:=hide C1;have Nj:=hide hP1;have Nk:=hide hsub;have HB1:=hide hB1
 by_cases he:err=0
 · subst he
   by_cases h5:op=5
   · subst h5;have HA2:Hid (Xo 5 vs hrs Z0 gs ps qs=YW gs qs):=hide (NG.out.trans ((if_neg (by simp)).trans (if_pos rfl)));have HE2:Hid (Vt 5 vs hrs Z0 gs ps qs=Xl gs qs.length):=hide (Qx.out.trans ((if_neg (by simp)).trans (if_pos rfl)));have Bt:=hide (pE (Also (Also P rb) (rb+1)) t es gs GA gc qs QA qc hr1.qj hr1.qu w1 hP1 (Nk.out _ HG.out) hr1.hg hr1.gk hr1.hq hw1 ht1 HL.out);clear hK1 C1 hP1 ht1 hr1 hw1 hB1 hb1 hv1 NG Qx HAV HAE B1 hsub;go_wp2_with fail;refine Bt.out.mono ?_;rintro e w2 ⟨A,c,rfl,hk2,ht2,hs2⟩;have C2:=Ru.out.kept hk2 (.inr rfl);have y0:=C2.q0 rfl;have y1:=C2.q1 rfl;have y2:=C2.q2 rfl;have g0:=C2.frozen 0;have g1:=C2.frozen 1;have g2:=C2.frozen 2;obtain ⟨⟨⟨val,cnt,recs⟩,er⟩,hR⟩:∃ R,R=YW gs qs:=⟨_,rfl⟩;have hsA:Sl w2 w2.heap.size A (ZA recs)/\(recs≠[]->∀ x,A=some x->x.block≠rb+1):=by
      refine ⟨by rw [<- hR] at hs2;exact hs2,fun hne x hx=>?_⟩;subst hx;rw [<- hR] at hs2;intro hxe;rcases hs2 with h|⟨b,off,hb,_,hcell⟩
      · obtain ⟨r,l,rfl⟩:=List.exists_cons_of_ne_nil hne;simp [ZA] at h
      · cases hb;dsimp only at hxe;subst hxe;obtain ⟨r,l,rfl⟩:=List.exists_cons_of_ne_nil hne;have h0:=hcell 0 (.int .u64 r.1) rfl;have hh:w2.heap[rb+1]?=some (.cells #[.int .i64 0,.int .i64 0,.slice none 0 0] 175 (0,0)):=C2;rw [cell_of_row w2 (rb+1) (off+0) _ _ _ hh] at h0;have:off+0<3:=by
         have:=(Array.getElem?_eq_some_iff.1 h0).1;simpa using this
        have h3:off+0=0\/off+0=1\/off+0=2:=(by omega);rcases h3 with h3|h3|h3 <;> rw [h3] at h0 <;> simp at h0
     rw [<- hR];dsimp only;have HSA:=hide hsA;have HRR:=hide (((C2.set 0 (.int .i64 val)).set 1 (.int .i64 cnt)).set 2 (.slice A recs.length c));have kS:=hide (Bl.out.trans (hk2.mono Nk.out));have HT2:Hid (Tp w2 (Also (Also P rb) (rb+1)) t (es++Xl gs qs.length)):=ht2;have zZ:=hide hR;clear hk2 ht2 hs2 C2 hsA hR c0 c1 c2 c3 c4 c5 c6;go_wp2;refine bodyPost_ret (U6 rfl rfl HRR.out) rfl ?_;exact QD (by rw [HA2.out,zZ.out]) (by rw [HE2.out]) kS.out Tq.out HT2.out (.inr rfl) Nk.out HSA.out.1 HSA.out.2
   · have h5n:¬ (op:Int)=5:=h5;have HA2:Hid (Xo op vs hrs Z0 gs ps qs=(⟨Yu op gs ps,0,[]⟩,0)):=hide (NG.out.trans ((if_neg (by simp)).trans (if_neg h5)));have HE2:Hid (Vt op vs hrs Z0 gs ps qs=Rs op gs ps):=hide (Qx.out.trans ((if_neg (by simp)).trans (if_neg h5)));have zrh:TA op vs hrs Z0 gs ps qs=(Yu op gs ps,0):=HAV.out.trans ((if_neg (by simp)).trans (if_neg h5));have zrg:NK op vs hrs Z0 gs ps qs=Rs op gs ps:=HAE.out.trans (if_neg (by simp));have lu:=rz (Also (Also P rb) (rb+1)) t es op vs Z0 hrs HA hc gs GA gc ps PA pc qs QA qc w1 hP1 (Nk.out _ HG.out) hw1 ht1 (by rcases HL.out with h|h;exact .inl h;exact .inr (by omega)) hr1;rw [zrh,zrg] at lu;have Bt:=hide lu;obtain ⟨val,hval⟩:=eE (Yu op gs ps);rw [<- hval] at Bt HA2;clear hval zrh zrg lu hK1 C1 hP1 ht1 hr1 hw1 hB1 hb1 hv1 NG Qx HAV HAE B1 hsub;go_wp2_with fail;refine Bt.out.mono ?_;rintro e w2 ⟨rfl,hk2,ht2⟩;have C2:=Ru.out.kept hk2 (.inr rfl);have y0:=C2.q0 rfl;have y1:=C2.q1 rfl;have y2:=C2.q2 rfl;have g0:=C2.frozen 0;have g1:=C2.frozen 1;have g2:=C2.frozen 2;have HRR:=hide (((C2.set 0 (.int .i64 val)).set 1 (.int .i64 0)).set 2 (.slice none 0 0));have kS:=hide (Bl.out.trans (hk2.mono Nk.out));have HT2:=hide ht2;clear hk2 ht2 C2 c0 c1 c2 c3 c4 c5 c6;go_wp2;refine bodyPost_ret (U6 rfl rfl HRR.out) rfl ?_;exact QD HA2.out (by rw [HE2.out]) kS.out Tq.out HT2.out (.inr rfl) Nk.out (Sl.nil _ _ _) (fun h=>absurd rfl h)
 · have hen:¬ (err:Int)=0:=he;have HA2:Hid (Xo op vs hrs Z0 gs ps qs=(Xk,err)):=hide (NG.out.trans (if_pos he));have HE2:Hid (Vt op vs hrs Z0 gs ps qs=[]):=hide (Qx.out.trans (if_pos he));have C2:=Ru.out;have y0:=C2.q0 rfl;have y1:=C2.q1 rfl;have y2:=C2.q2 rfl;have g0:=C2.frozen 0;have g1:=C2.frozen 1;have g2:=C2.frozen 2;have HRR:=hide (((C2.set 0 (.int .i64 0)).set 1 (.int .i64 0)).set 2 (.slice none 0 0));have HT2:=hide ht1;clear hK1 C1 hP1 ht1 hr1 hw1 hB1 hb1 hv1 NG Qx HAV HAE B1 hsub C2 c0 c1 c2 c3 c4 c5 c6;go_wp2;refine bodyPost_ret (U6 rfl rfl HRR.out) rfl ?_;exact QD HA2.out (by rw [HE2.out,List.append_nil]) Bl.out Tq.out HT2.out (.inr rfl) Nk.out (Sl.nil _ _ _) (fun h=>absurd rfl h)
end
section
open Go.RowKit
def QE(g:Gr):Gr:=(⟨g.1.d,g.1.v,none,g.2.length,0⟩,g.2)
def cg(x:Gd):Gr:=(⟨x.1,x.2.1,none,x.2.2.length,0⟩,x.2.2)
theorem zsh(gs:List Gr):(gs.map QM).map cg=gs.map QE:=by rw [List.map_map];rfl
theorem NP:∀ (gs:List Gr),(∀ g∈gs,g.1.n=g.2.length)->Y1 ((gs.map QE).map (·.1))=Y1 (gs.map (·.1))
 | [],_=>rfl
 | g::gs,h=>by
   have ih:=NP gs fun x hx=>h x (List.mem_cons_of_mem _ hx);have hn:=h g (List.mem_cons_self ..);rw [List.map_cons,List.map_cons,List.map_cons,Y1,Y1,ih];show (if ZO g.1.v=0 then _ else if ZO g.1.v=(g.2.length:Int) then _ else _)=_;rw [<- hn]
theorem UW{gs:List Gr}(h:∀ g∈gs,g.1.n=g.2.length):Zi ((gs.map QE).map (·.1))=Zi (gs.map (·.1)):=by
 unfold Zi;rw [NP gs h,List.length_map,List.length_map,List.length_map]
theorem R7{gs:List Gr}(h:∀ g∈gs,g.1.n=g.2.length):Zc (gs.map QE)=Zc gs:=by
 unfold Zc Te;rw [UW h,List.foldl_map];rfl
theorem Jz{gs:List Gr}(h:∀ g∈gs,g.1.n=g.2.length)(p:Pt):XZ (gs.map QE) p=XZ gs p:=by
 unfold XZ Wq;rw [UW h,List.foldl_map];rfl
theorem ER:∀ (i:Nat) (gs:List Gr),V3 i (gs.map QE)=V3 i gs
 | _,[]=>rfl
 | i,g::gs=>by rw [List.map_cons,V3,V3,ER (i+1) gs];rfl
theorem EP:∀ (i:Nat) (gs:List Gr),WK i (gs.map QE)=WK i gs
 | _,[]=>rfl
 | i,g::gs=>by rw [List.map_cons,WK,WK,EP (i+1) gs];rfl
theorem Ah{gs:List Gr}(h:∀ g∈gs,g.1.n=g.2.length):Zf (gs.map QE)=Zf gs:=by unfold Zf;rw [UW h,ER]
theorem Ag{gs:List Gr}(h:∀ g∈gs,g.1.n=g.2.length):YD (gs.map QE)=YD gs:=by unfold YD;rw [UW h,EP]
theorem xS{gs:List Gr}(h:∀ g∈gs,g.1.n=g.2.length)(qs:List ((Int × Int) × Int)):Zb (gs.map QE) qs=Zb gs qs:=by
 unfold Zb;refine List.map_congr_left fun q _=>?_;unfold hrec;rw [R7 h,Jz h]
theorem Le{gs:List Gr}(h:∀ g∈gs,g.1.n=g.2.length)(n:Nat):Yl (gs.map QE) n=Yl gs n:=by unfold Yl;rw [UW h]
theorem BH{gs:List Gr}(h:∀ g∈gs,g.1.n=g.2.length)(qs:List ((Int × Int) × Int)):YW (gs.map QE) qs=YW gs qs:=by unfold YW;rw [Le h,R7 h,xS h]
theorem EO{gs:List Gr}(h:∀ g∈gs,g.1.n=g.2.length)(n:Nat):Xl (gs.map QE) n=Xl gs n:=by unfold Xl XV;rw [Le h,Ah h,Ag h]
theorem xR{gs:List Gr}(h:∀ g∈gs,g.1.n=g.2.length)(op:Int)(ps:List Pt):Yu op (gs.map QE) ps=Yu op gs ps:=by unfold Yu VZ;rw [R7 h,Jz h]
theorem rG{gs:List Gr}(h:∀ g∈gs,g.1.n=g.2.length)(op:Int)(ps:List Pt):Rs op (gs.map QE) ps=Rs op gs ps:=by unfold Rs MX;rw [Ah h,Ag h]
def YA(q:Rq):qd:=if q.h.op=5 then (YW (q.gs.map cg) q.qs).1 else ⟨Yu q.h.op (q.gs.map cg) q.ps,0,[]⟩
def iI(q:Rq):List Ev:=if q.h.op=5 then Xl (q.gs.map cg) q.qs.length else Rs q.h.op (q.gs.map cg) q.ps
def YZ(bs:List Int):List Int:=if (Zr bs).2≠0 then [(Zr bs).2] else Zp (Zr bs).1.h.op (YA (Zr bs).1).val (YA (Zr bs).1).cnt (YA (Zr bs).1).recs
def Qo(bs:List Int):List Ev:=if (Zr bs).2≠0 then [] else iI (Zr bs).1
theorem LD:∀ (gs:List Gr) (hrs:List Rg),gs.length=hrs.length->(gs.zip hrs).any Vz=false->(gs.zip hrs).any Wy=false->hrs.any Zt=false->Y1 (gs.map (·.1))=0
 | [],[],_,_,_,_=>rfl
 | [],_::_,h,_,_,_=>by simp at h
 | _::_,[],h,_,_,_=>by simp at h
 | g::gs,r::hrs,hl,hs,hk,hw=>by
   rw [List.zip_cons_cons,List.any_cons,Bool.or_eq_false_iff] at hs hk;rw [List.any_cons,Bool.or_eq_false_iff] at hw;have a3:=LD gs hrs (by simpa using hl) hs.2 hk.2 hw.2;have h1:(g.1.n:Int)=ZO r.v:=(by have:=hs.1;unfold Vz at this;simpa using this);have h2:g.1.v=r.v:=by
    have:=hk.1;unfold Wy at this;rw [Bool.or_eq_false_iff] at this;simpa using this.2
   have h3:ZO r.v≠0:=(by have:=hw.1;unfold Zt at this;simpa using this);show Y1 (g.1::gs.map (·.1))=0;unfold Y1;rw [h2,if_neg h3,if_pos h1.symm];exact a3
theorem wz(x:Int):0<=x.sign+1/\x.sign+1<=2:=by rcases Xq x with h|h|h <;> rw [h] <;> decide
theorem ru(op:Int)(gs:List Gr)(ps:List Pt):0<=Yu op gs ps/\(op≠5->Yu op gs ps<=most op):=by
 have hc:∀ ps p,0<=WV ps p/\WV ps p<=3:=fun ps p=>by
  have h:=Ng (Xh (Z4 ps) ps p (List.range (Y6 ps.length))).1 (Xh (Z4 ps) ps p (List.range (Y6 ps.length))).2;have e:UL ps p=KU (Xh (Z4 ps) ps p (List.range (Y6 ps.length))).1 (Xh (Z4 ps) ps p (List.range (Y6 ps.length))).2:=rfl;rw [<- e] at h;unfold WV;cases YB ps <;> simp <;> omega
 have hf:∀ p,0<=VZ gs p/\VZ gs p<=2:=fun p=>by
  unfold VZ;cases Zc gs <;> cases XZ gs p <;> decide
 unfold Yu most
 by_cases o1:op=1
 · rw [if_pos o1,if_neg (by omega),if_neg (by omega)];have:=wz (ZM (Z5 ps 0) (Z5 ps 1) (Z5 ps 2));exact ⟨this.1,fun _=>this.2⟩
 rw [if_neg o1]
 by_cases o2:op=2
 · rw [if_pos o2,if_neg (by omega),if_neg (by omega)];have:=wz (YI (Z5 ps 0) (Z5 ps 1) (Z5 ps 2) (Z5 ps 3));exact ⟨this.1,fun _=>this.2⟩
 rw [if_neg o2]
 by_cases o3:op=3
 · rw [if_pos o3,if_pos o3];have:=hc (ps.take (ps.length - 1)) (Z5 ps (ps.length - 1));exact ⟨this.1,fun _=>this.2⟩
 rw [if_neg o3,if_neg o3];have:=hf (Z5 ps 0);exact ⟨this.1,fun h5=>by rw [if_neg h5];exact this.2⟩
theorem RJ{op vs Z0:Int}{hrs:List Rg}{gs:List Gr}{ps:List Pt}{qs:List ((Int × Int) × Int)}(h:(ZK op vs hrs Z0 gs ps qs).2=0)(hn:∀ g∈gs,g.1.n=g.2.length)(hq:∀ q∈qs,Vo q.2){q:Rq}(e1:q.h.op=op)(e3:q.gs=gs.map QM)(e4:q.ps=ps)(e5:q.qs=qs):
 Xo op vs hrs Z0 gs ps qs=(YA q,0)/\Vt op vs hrs Z0 gs ps qs=iI q/\WQ op Z0 (YA q).val (YA q).cnt (YA q).recs=true/\ZT op vs hrs Z0=0:=by
 obtain ⟨hc,hgl,hpl,tX,hsz,hkd⟩:=QN h;obtain ⟨o1,o5,c3,c4,c5,c6,c7,c8,_⟩:=Zu hc;have hh:Xo op vs hrs Z0 gs ps qs=if op=5 then YW gs qs else (⟨Yu op gs ps,0,[]⟩,0):=if_neg (by simpa using h);have he:Vt op vs hrs Z0 gs ps qs=if op=5 then Xl gs qs.length else Rs op gs ps:=if_neg (by simpa using h);rw [hh,he];unfold YA iI;rw [e1,e3,e4,e5,zsh,BH hn,EO hn,xR hn,rG hn]
 by_cases h5:op=5
 · subst h5;rw [if_pos rfl,if_pos rfl,if_pos rfl];have hpt:=c7 rfl;have tY:(qs.length:Int)=Z0:=(by rw [tX];unfold WU;rw [if_neg (by omega)]);obtain ⟨l1,l2,l3⟩:=c5 (by omega);have hf:Zi (gs.map (·.1))=0:=by
    unfold Zi;rw [if_neg (by rw [List.length_map];omega)];exact LD gs hrs hgl hsz hkd l3
   have hb:Yl gs qs.length=0:=by
    unfold Yl;rw [if_neg (by simpa using hf),if_neg (by omega)]
   have hr:YW gs qs=((YW gs qs).1,0):=(by unfold YW;rw [if_neg (by simpa using hb)]);refine ⟨hr,rfl,?_,hc⟩;rw [<- tY];exact EL hq hb
 · rw [if_neg h5,if_neg h5,if_neg h5];refine ⟨rfl,rfl,?_,hc⟩;have hp:=c8 h5;have hb:=ru op gs ps;have hb2:=hb.2 h5;unfold WQ;dsimp only;rw [if_neg (by omega),if_neg (by omega),if_neg (by simp [hp]),if_neg (by omega),if_neg (by unfold OO;split <;> omega)];rfl
theorem MR{bs:List Int}{q:Rq}(hby:By bs)(hd:Zr bs=(q,0)){hrs:List Rg}{gs:List Gr}(hk:hrs.map Rg.key=q.h.rs.map Rg.key)(hg:gs.map QM=q.gs)(hn:∀ g∈gs,g.1.n=g.2.length):
 ZK q.h.op q.h.vs hrs q.h.Z0 gs q.ps q.qs=(bs,0):=by
 unfold Zr at hd
 by_cases hc:YX bs=0
 · rw [if_pos hc] at hd;obtain ⟨⟨h,n,er⟩,hp⟩:∃ r,r=ZX bs:=⟨_,rfl⟩;rw [<- hp] at hd;obtain ⟨z1,z2,z3,z4,z5,z6,_,_,z7⟩:=Ud hp.symm hc;have hcan:=O8 bs (fun j x hj=>hby x (List.mem_of_getElem? hj));rw [<- hp] at hcan;obtain ⟨f1,f2,f3⟩:=hcan z1;dsimp only at f1 f2 f3 hd;have zuj:bs=Zx h.op h.vs h.rs h.Z0++bs.drop n.toNat:=(by rw [f1,List.take_append_drop]);have hfmt:=KI z2 (bs.drop n.toNat);rw [<- zuj,<- hp] at hfmt;have ug:h.rs=h.rs.map VK:=by
    have:=congrArg (fun r:PH × Int × Int=>r.1.rs) hfmt;exact this
   have hh:h=⟨h.op,h.vs,h.rs.map VK,h.Z0⟩:=by
    have:=congrArg (fun r:PH × Int × Int=>r.1) hfmt;exact this
   have hq:UF h (bs.drop n.toNat)=q:=by
    have:=congrArg Prod.fst hd;exact this
   subst hq;have hl:((bs.drop n.toNat).length:Int)=16*(Y8 h.rs:Int)+16*XT h.op h.vs+24*WU h.op h.Z0:=(by rw [List.length_drop];omega);have key:=KG (hrs:=hrs) (gs:=gs) z2 hl (hby.drop _) (by rw [<- ug];exact hk) (by rw [<- ug];exact hg) hn;rw [<- ug] at key;have e:(UF ⟨h.op,h.vs,h.rs,h.Z0⟩ (bs.drop n.toNat))=UF h (bs.drop n.toNat):=rfl;rw [e] at key;rw [<- zuj] at key;exact key
 · rw [if_neg hc] at hd;have:=congrArg Prod.snd hd;exact absurd this hc
end
section
open Go.RowKit Go.Shelf Go.Maps
def Uu(w:World):Option (Nat × Nat)->Prop
 | none=>True
 | some u=>Z6 w u.1 377 #[.slice none 0 0,.map (some u.2)]/\w.ownsMap (H:=Unit) prog 3 (plainElem prog 3) u.2 0 (.map [])
def NT(t:Option (Nat × Nat))(n:Nat)(k:Nat):Prop:=k<n/\∀ u,t=some u->k≠u.1/\k≠u.2
theorem Uu.tp{w:World}{t:Option (Nat × Nat)}{P:Nat->Prop}(h:Uu w t)(hP:∀ k,P k->∀ u,t=some u->k≠u.1/\k≠u.2):Tp w P t []:=by
 cases t with
 | none=>trivial
 | some u=>exact ⟨.slice none 0 0,0,.map [],h.1,fun hp=>(hP _ hp u rfl).1 rfl,fun hp=>(hP _ hp u rfl).2 rfl,World.ownsRow_nil _ _ _ _,by simp [Value.ownBlock],by simp [Value.ownBlock],Nat.le_refl _,h.2⟩
theorem Uu.step{w w':World}{t:Option (Nat × Nat)}(h:Uu w t)(hb:Below w.heap.size w w'):Uu w' t:=by
 cases t with
 | none=>trivial
 | some u=>exact ⟨h.1.step hb,h.2.kept (below_grown hb) (by simp)⟩
theorem Uu.off{w:World}{t:Option (Nat × Nat)}(h:Uu w t){b o:Nat}{v:Value}(hc:w.cell? ⟨b,o,none⟩=some v)(hv:(∀ A n c,v≠.slice A n c)/\∀ m,v≠.map m):NT t w.heap.size b:=by
 refine ⟨Zv hc,?_⟩;rintro u rfl;refine ⟨fun e=>?_,fun e=>?_⟩
 · have hb:=h.1;rw [<- e] at hb;rw [cell_of_row w b o _ _ (0,0) hb] at hc;rcases o with _|_|o
   · simp at hc;exact hv.1 _ _ _ hc.symm
   · simp at hc;exact hv.2 _ hc.symm
   · simp at hc
 · have hm:=h.2;rw [<- e] at hm;obtain ⟨es,clock,hh,_⟩:=hm;simp [World.cell?,hh] at hc
theorem Uu.slP{w:World}{t:Option (Nat × Nat)}(h:Uu w t){B:Nat}{A:Option Addr}{xs:List Value}(hs:Sl w B A xs)(hx:∀ v,xs[0]?=some v->(∀ A n c,v≠.slice A n c)/\∀ m,v≠.map m):UU w (NT t w.heap.size) A xs:=by
 rcases hs with h0|⟨b,off,hA,hb,hc⟩
 · exact .inl h0
 · cases xs with
   | nil=>exact .inl rfl
   | cons x xs=>exact .inr ⟨b,off,hA,h.off (hc 0 x rfl) (hx x rfl),hc⟩
theorem AY(rs:List Rg):∀ v,(rgCells rs)[0]?=some v->(∀ A n c,v≠.slice A n c)/\∀ m,v≠.map m:=by
 intro v hv;cases rs with
 | nil=>simp [rgCells] at hv
 | cons r rs=>simp [rgCells,Rg.cells] at hv;subst hv;exact ⟨fun _ _ _ h=>(by cases h),fun _ h=>(by cases h)⟩
theorem AP(ps:List (Int × Int)):∀ v,(Zg ps)[0]?=some v->(∀ A n c,v≠.slice A n c)/\∀ m,v≠.map m:=by
 intro v hv;cases ps with
 | nil=>simp [Zg] at hv
 | cons r rs=>simp [Zg] at hv;subst hv;exact ⟨fun _ _ _ h=>(by cases h),fun _ h=>(by cases h)⟩
theorem oQ(ps:List ((Int × Int) × Int)):∀ v,(Wt ps)[0]?=some v->(∀ A n c,v≠.slice A n c)/\∀ m,v≠.map m:=by
 intro v hv;cases ps with
 | nil=>simp [Wt] at hv
 | cons r rs=>simp [Wt] at hv;subst hv;exact ⟨fun _ _ _ h=>(by cases h),fun _ h=>(by cases h)⟩
theorem Ke(bs:List Int)(n:Nat):Ub (XL bs n):=by
 intro p hp;obtain ⟨i,_,rfl⟩:=List.mem_map.1 hp;unfold UM Vv wrap64;exact ⟨⟨by dsimp only;omega,by dsimp only;omega⟩,by dsimp only;omega,by dsimp only;omega⟩
theorem Ml:∀ (rs:List Rg) (bs:List Int),∀ g∈Yd rs bs,Ub g.2.2/\g.2.2.length<=10000
 | [],_,g,hg=>by cases hg
 | r::rs,bs,g,hg=>by
   unfold Yd at hg;rcases List.mem_cons.1 hg with rfl|hg
   · exact ⟨Ke _ _,by rw [Y7];exact Nat.le_trans (Qq _) (by decide)⟩
   · exact Ml rs _ g hg
theorem le8{l:List Int}(hb:By l)(hl:l.length<=8):Vo (le l):=by
 obtain ⟨b0,b1⟩:=FT l hb;generalize le l=L at b0 b1;generalize l.length=k at hl b1;have hk:k=0\/k=1\/k=2\/k=3\/k=4\/k=5\/k=6\/k=7\/k=8:=by omega
 exact ⟨b0,by rcases hk with rfl|rfl|rfl|rfl|rfl|rfl|rfl|rfl|rfl <;> simp at b1 <;> omega⟩
theorem Ue{bs:List Int}{q:Rq}(hby:By bs)(hd:Zr bs=(q,0)):Ub q.ps/\(∀ x∈q.qs,PJ x.1/\Vo x.2)/\(∀ g∈q.gs,Ub g.2.2/\g.2.2.length<=10000)/\ZT q.h.op q.h.vs q.h.rs q.h.Z0=0:=by
 unfold Zr at hd
 by_cases hc:YX bs=0
 · rw [if_pos hc] at hd;have hq:UF (ZX bs).1 (bs.drop (ZX bs).2.1.toNat)=q:=congrArg Prod.fst hd;obtain ⟨⟨h,n,er⟩,hp⟩:∃ r,r=ZX bs:=⟨_,rfl⟩;obtain ⟨_,z2,_⟩:=Ud hp.symm hc;rw [<- hp] at hq;subst hq;refine ⟨Ke _ _,fun x hx=>?_,Ml _ _,z2⟩;obtain ⟨i,_,rfl⟩:=List.mem_map.1 hx;refine ⟨?_,?_⟩
   · unfold Ws Vv wrap64;exact ⟨⟨by dsimp only;omega,by dsimp only;omega⟩,by dsimp only;omega,by dsimp only;omega⟩
   · unfold Ws;dsimp only;exact le8 (((hby.drop _).drop _).drop _ |>.take _) (by unfold eight;rw [List.length_take];omega)
 · rw [if_neg hc] at hd;exact absurd (congrArg Prod.snd hd) hc
theorem PU(eb ob:Nat)(er:Int)(v:Value)(w:World)(hE:Z6 w eb 94 #[.int .i64 er])(hO:Z6 w ob 49 #[v])(h0:0<=er)(h1:er<=255)(u:FrameMode):
 CallsD prog 163 #[.pointer (some ⟨eb,0,none⟩),.pointer (some ⟨ob,0,none⟩)] u w fun e u' w'=>u'=u/\e=.returned (.tuple #[]) /\
  (er=0/\w'=w\/er≠0/\w'=(w.alloc (.cells #[.int .u8 er] 5)).setCell ⟨ob,0,none⟩ (.slice (some ⟨w.heap.size,0,none⟩) 1 1)):=by
 have e0:=hE.q0 rfl;have o0:=(hO.alloc (.cells #[.int .u8 er] 5)).q0 rfl;have f0:=(hO.alloc (.cells #[.int .u8 er] 5)).frozen 0;have hw8:IntKind.u8.wrap er=er:=by rw [IntKind.wrap_u8];omega
 by_cases he:er=0
 · subst he;refine (callsD_of_wp (R:=fun e w'=>e=.returned (.tuple #[])/\w'=w) func163 rfl ?_).mono ?_
   · simp only [ntmps163,List.size_toArray,List.length_cons,List.length_nil,Nat.reduceAdd,Nat.reduceSub,Array.replicate_succ,Array.replicate_zero,List.push_toArray,List.append_toArray,List.nil_append,List.cons_append];go_wp2;go_end0;exact ⟨rfl,rfl⟩
   · rintro e u' w' ⟨rfl,rfl,rfl⟩;exact ⟨rfl,rfl,.inl ⟨rfl,rfl⟩⟩
 · refine (callsD_of_wp (R:=fun e w'=>e=.returned (.tuple #[])/\w'=(w.alloc (.cells #[.int .u8 er] 5)).setCell ⟨ob,0,none⟩ (.slice (some ⟨w.heap.size,0,none⟩) 1 1)) func163 rfl ?_).mono ?_
   · simp only [ntmps163,List.size_toArray,List.length_cons,List.length_nil,Nat.reduceAdd,Nat.reduceSub,Array.replicate_succ,Array.replicate_zero,List.push_toArray,List.append_toArray,List.nil_append,List.cons_append];have e1:=(hE.alloc (.cells #[.int .u8 er] 5)).q0 rfl;go_wp2;go_end0;exact ⟨rfl,rfl⟩
   · rintro e u' w' ⟨rfl,rfl,rfl⟩;exact ⟨rfl,rfl,.inr ⟨he,rfl⟩⟩
def zrf(r:PH × Int × Int):Prop:=0<=r.2.2/\r.2.2<=8
theorem OW(bs:List Int):0<=YX bs/\YX bs<=8:=by
 have h:zrf (ZX bs):=by
  unfold ZX
  repeat' (refine YG (fun _=>?_) (fun _=>?_))
  all_goals exact ⟨by dsimp only;omega,by dsimp only;omega⟩
 unfold YX;unfold zrf at h;split
 · split <;> omega
 · exact h
def K9(t:Option (Nat × Nat))(bs:List Int)(w:World)(e:Ending)(w':World):Prop :=
 ∃ A c,e=.returned (.slice A (YZ bs).length c)/\(YZ bs).length<=c/\Z8 (NT t w.heap.size) w w'/\Tp w' (NT t w.heap.size) t (Qo bs)/\Sl w' w'.heap.size A (ZY (YZ bs))
theorem Ec (t:Option (Nat × Nat)) (bs:List Int) (A:Option Addr) (c:Nat) (w:World) (hs:Sl w w.heap.size A (ZY bs)) (hcap:bs.length<=c) (hby:By bs) (hmax:bs.length<=300000) (hfix:Fixed w) (hg:9<w.heap.size) (hw:MW w) (hf:Uu w t)
 (hl:t=none\/4161*(Zr bs).1.qs.length+(Xv (lg (Zr bs).1.qs.length)).length<=600000) :
 Calls prog 114 #[.pointer (Zz t),.slice A bs.length c] w (K9 t bs w):=by
 obtain ⟨ob,Sw⟩:=eE w.heap.size;obtain ⟨w0,hw0⟩:=eE ((w.alloc (.cells #[.slice none 0 0] 49)).alloc (.cells #[.int .i64 0] 94));have hb0:=bF hw0;have O0:Z6 w0 ob 49 #[.slice none 0 0]:=by rw [hw0,Sw];exact (Z6.new _ _ _).alloc _
 have E0:Z6 w0 (ob+1) 94 #[.int .i64 0]:=by rw [hw0,Sw];exact Z6.new2 _ _ _ _
 have HD:=hide (BS bs A c w0 ((hs.below hb0).more hb0.size) hcap hby hmax (hfix.below hb0 hg) (Nat.lt_of_lt_of_le hg hb0.size));have hmf:∀ (fn:Fn) (first cap:Array Value) (w:World),(Instr.makeFunc fn first cap).run prog w=.ok (.func fn first cap) w:=fun _ _ _ _=>rfl
 have zoo:Hid (∀ n,ob+1<n->NT t n ob/\NT t n (ob+1)):=fun n hn=>by
  refine ⟨⟨by omega,?_⟩,by omega,?_⟩
  · rintro u rfl;have h1:=hf.1.lt;have h2:=hf.2.lt;exact ⟨by omega,by omega⟩
  · rintro u rfl;have h1:=hf.1.lt;have h2:=hf.2.lt;exact ⟨by omega,by omega⟩
 have jH:Hid (¬ NT t w.heap.size ob/\¬ NT t w.heap.size (ob+1)):=⟨fun h=>by have:=h.1;omega,fun h=>by have:=h.1;omega⟩;have HF:=hide hf;have HW:=hide hw;have HB0:=hide hb0;have HO0:=hide O0;have HE0:=hide E0;have HL:=hide hl;have hcb:=OW bs;have HFG:=hide hg;have HFX:=hide hfix;clear hfix hg hf hw hb0 O0 E0 hl hs hcap
 by_cases hc:YX bs=0
 · obtain ⟨q,hq⟩:∃ q,Zr bs=(q,0):=⟨_,by unfold Zr;rw [if_pos hc]⟩;obtain ⟨dj1,Al,dj3,dj4⟩:=Ue hby hq;obtain ⟨z1,z2,z3,z4,z5,z6,z7,z8,_⟩:=Zu dj4;have zts:q.h.rs.length<=64:=by
    by_cases h4:4<=q.h.op
    · exact (z5 h4).2.1
    · rw [z6 (by omega)];simp
   have hsv:YZ bs=Zp q.h.op (YA q).val (YA q).cnt (YA q).recs:=(by unfold YZ;rw [hq,if_neg (by simp)]);have hse:Qo bs=iI q:=by unfold Qo;rw [hq,if_neg (by simp)]
   have aR:Hid (∀ e w',(∃ A c,e=.returned (.slice A (Zp q.h.op (YA q).val (YA q).cnt (YA q).recs).length c)/\(Zp q.h.op (YA q).val (YA q).cnt (YA q).recs).length<=c/\Z8 (NT t w.heap.size) w w'/\Tp w' (NT t w.heap.size) t (iI q)/\Sl w' w'.heap.size A (ZY (Zp q.h.op (YA q).val (YA q).cnt (YA q).recs)))->K9 t bs w e w'):=fun e w' h=>by
    unfold K9;rw [hsv,hse];exact h
   have UQ:Hid (∀ hrs gs,hrs.map Rg.key=q.h.rs.map Rg.key->gs.map QM=q.gs->(∀ g∈gs,g.1.n=g.2.length)->Xo q.h.op q.h.vs hrs q.h.Z0 gs q.ps q.qs=(YA q,0)/\Vt q.h.op q.h.vs hrs q.h.Z0 gs q.ps q.qs=iI q/\WQ q.h.op q.h.Z0 (YA q).val (YA q).cnt (YA q).recs=true/\ZT q.h.op q.h.vs hrs q.h.Z0=0) :=
    fun hrs gs hk hgd hn=>RJ (by rw [MR hby hq hk hgd hn]) hn (fun x hx=>(Al x hx).2) rfl hgd.symm rfl rfl
   rw [hq] at HD HL;have HDJ:=hide (And.intro dj1 (And.intro Al dj3));have HQL:=hide zts;have jI:=hide (And.intro z7 z8);clear hq hsv hse hby hmax hc hcb dj1 Al dj3 dj4 z1 z2 z3 z4 z5 z6 z7 z8 zts;obtain ⟨⟨op,vs,rs0,Z0⟩,gds,ps,qs⟩:=q;dsimp only at *;go_enter_defers func114,ntmps114;go_wp2_with fail;rw [<- hw0,<- Sw];have HW0:=hide hw0;have HOB:=hide Sw;clear hw0 Sw;refine HD.out.mono ?_;rintro e w1 ⟨hrs,HA,hc2,gs,GA,gc,PA,pc,QA,qc,rfl,hb1,hr1,hcap1⟩;unfold OC;dsimp only;obtain ⟨hh,hkey,hgg,hgk,hgd,hpp,hqq⟩:=hr1;dsimp only at hkey hgd hpp hqq hcap1;have hn:∀ g∈gs,g.1.n=g.2.length:=fun g hg=>(hgk g hg).1;obtain ⟨k1,k2,k3,k4⟩:=UQ.out hrs gs hkey hgd hn;have hhl:hrs.length<=64:=(by have:=congrArg List.length hkey;simp at this;have:=HQL.out;omega);have E1:=HE0.out.step hb1;have O1:=HO0.out.step hb1;have hB1:=Z9 HB0.out hb1;have hf1:=HF.out.step hB1;obtain ⟨rb,hrb⟩:=eE w1.heap.size;obtain ⟨W3,hW3⟩:=eE ((w1.setCell ⟨ob+1,0,none⟩ (.int .i64 0)).alloc (.cells #[.int .i64 op,.int .i64 vs,.slice HA hrs.length hc2,.int .i64 Z0,.slice GA gs.length gc,.slice PA ps.length pc,.slice QA qs.length qc] 182));have e1:w1.cell? ⟨ob+1,0,none⟩=some (.int .i64 0):=E1.q0 rfl;have fe1:=E1.frozen 0;have hl1:ob+1<w1.heap.size:=E1.lt;have hl0:ob<w1.heap.size:=O1.lt;have hro:w.heap.size<=ob:=(by rw [HOB.out];exact Nat.le_refl _);have hB3:Below w.heap.size w W3:=(by rw [hW3];exact Z7 (hB1.setCell (p:=⟨ob+1,0,none⟩) (by dsimp only;omega) _) _);have hz3:W3.heap.size=rb+1:=by rw [hW3,hrb];simp
   have hsame:∀ b o,b<w1.heap.size->W3.cell? ⟨b,o,none⟩=w1.cell? ⟨b,o,none⟩:=fun b o hb=>by
    rw [hW3,World.cell?_alloc_lt _ _ _ (by simpa using hb),Uc e1]
   have yP:∀ {A:Option Addr} {xs:List Value},Sl w1 w1.heap.size A xs->Sl W3 w1.heap.size A xs:=fun {A xs} h=>by
    rcases h with h|⟨b,off,hA,hb,hcc⟩
    · exact .inl h
    · exact .inr ⟨b,off,hA,hb,fun j u hu=>(hsame b _ hb).trans (hcc j u hu)⟩
   have hf3:=HF.out.step hB3;have Q3:Z6 W3 rb 182 #[.int .i64 op,.int .i64 vs,.slice HA hrs.length hc2,.int .i64 Z0,.slice GA gs.length gc,.slice PA ps.length pc,.slice QA qs.length qc]:=by
    have h:=Z6.new (w1.setCell ⟨ob+1,0,none⟩ (.int .i64 0)) 182 #[.int .i64 op,.int .i64 vs,.slice HA hrs.length hc2,.int .i64 Z0,.slice GA gs.length gc,.slice PA ps.length pc,.slice QA qs.length qc];rw [World.size_setCell,<- hrb,<- hW3] at h;exact h
   have E3:Z6 W3 (ob+1) 94 #[.int .i64 0]:=(by rw [hW3];exact (E1.set 0 (.int .i64 0)).alloc _);have O3:Z6 W3 ob 49 #[.slice none 0 0]:=(by rw [hW3];exact (O1.far (p:=⟨ob+1,0,none⟩) (by dsimp only;omega) _).alloc _);have ztm:∀ k,NT t w.heap.size k->NT t W3.heap.size k:=fun k hk=>⟨Nat.lt_of_lt_of_le hk.1 hB3.size,hk.2⟩;have cO:∀ k,NT t W3.heap.size k->k<W3.heap.size:=fun k hk=>hk.1;have hmem:=zoo.out W3.heap.size (by rw [hz3];omega)
   have ztu:NT t W3.heap.size rb:=⟨by omega,by
    rintro u rfl;have h1:=HF.out.1.lt;have h2:=HF.out.2.lt
    exact ⟨by omega,by omega⟩⟩
   have hw3:=HW.out.step hB3;have hwm:NT t W3.heap.size 8:=hf3.off hw3.1.1 ⟨fun _ _ _ h=>(by cases h),fun _ h=>(by cases h)⟩
   have CO:EH W3 (NT t W3.heap.size) hrs HA gs GA ps PA pc qs QA :=
    ⟨hf3.slP (yP hh) (AY _),by unfold maxLen;omega,hf3.slP (yP hgg) (AY _),fun g hg=>⟨hn g hg,hf3.slP (yP (hgk g hg).2) (AP _),HDJ.out.2.2 (QM g) (by rw [<- hgd];exact List.mem_map_of_mem hg)⟩,hf3.slP (yP hpp) (AP _),HDJ.out.1,hcap1,hf3.slP (yP hqq) (oQ _),fun x hx=>(HDJ.out.2.1 x hx).1,fun x hx=>(HDJ.out.2.1 x hx).2⟩
   have aC:=Cr (NT t W3.heap.size) t [] op vs Z0 hrs HA hc2 gs GA gc ps PA pc qs QA qc W3 cO hwm hw3 (hf3.tp fun k hk=>hk.2) (by rcases HL.out with h|h;exact .inl h;exact .inr (by simp only [List.length_nil];omega)) CO;rw [k1,k2,List.nil_append] at aC;have HHD:=hide aC;have HHS:Hid (UU W3 (NT t W3.heap.size) HA (rgCells hrs)):=CO.hh;obtain ⟨⟨val,cnt,recs⟩,hqa⟩:∃ a,a=YA ⟨⟨op,vs,rs0,Z0⟩,gds,ps,qs⟩:=⟨_,rfl⟩;rw [<- hqa] at k3 HHD aR;dsimp only at k3;have hp0:0<=Z0:=by
    by_cases h5:op=5
    · have:=jI.out.1 h5;omega
    · have:=jI.out.2 h5;omega
   have hp1:Z0<=4096:=by
    by_cases h5:op=5
    · have:=jI.out.1 h5;omega
    · have:=jI.out.2 h5;omega
   have hia:=VH k3 hp0;have Ra:Yh op vs hrs Z0 val cnt recs=(Zp op val cnt recs,0):=(by unfold Yh;rw [if_neg (by simpa using k4),if_neg (by simp [k3])]);have qy:Hid (recs.length<=maxLen):=(by unfold maxLen;exact (by omega:recs.length<=9223372036854775807));have zsa:=hide Ra;obtain ⟨EV,hEV⟩:=eE (iI ⟨⟨op,vs,rs0,Z0⟩,gds,ps,qs⟩);rw [<- hEV] at HHD aR;obtain ⟨RB,hRB⟩:=eE (Zp op val cnt recs);rw [<- hRB] at aR zsa;have c0:=Q3.q0 rfl;have HW3:=hide hW3;have Eo:=hide hrb;have HQ3:=hide Q3;have HE3:=hide E3;have HO3:=hide O3;have HB3:=hide hB3;have aI:=hide ztm;have xJ:=hide hmem;have zos:=hide ztu;have zrr:=hide cO;have HHL:=hide hhl;have HZ3:=hide hz3;clear hqa hEV hRB Ra hia k1 k2 k3 k4 aC CO hwm hw3 ztu hmem cO ztm hf3 yP hsame hB1 hf1 hb1 hh hkey hgg hgk hgd hpp hqq hn E1 O1 E3 O3 hB3 hz3 hcap1 UQ HD HDJ;go_wp2_with fail;have zpw:=Eo.out;subst zpw;rw [<- HW3.out];refine HHD.out.mono ?_;rintro e w4 ⟨RA,rc,rfl,hk4,KL,hs4⟩;dsimp only at hs4;have E4:=HE3.out.kept hk4 xJ.out.2;have O4:=HO3.out.kept hk4 xJ.out.1;have Q4:=HQ3.out.kept hk4 zos.out;have e4:w4.cell? ⟨ob+1,0,none⟩=some (.int .i64 0):=E4.q0 rfl;have fe4:=E4.frozen 0;have q0:=Q4.q0 rfl;have q1:=Q4.q1 rfl;have q2:=Q4.q2 rfl;have q3:=Q4.q3 rfl;have hl4:ob+1<w4.heap.size:=E4.lt;have zmm:ob<w4.heap.size:=O4.lt;have zmn:w1.heap.size<w4.heap.size:=Q4.lt;obtain ⟨W5,Cq⟩:=eE ((w4.setCell ⟨ob+1,0,none⟩ (.int .i64 0)).alloc (.cells #[.int .i64 val,.int .i64 cnt,.slice RA recs.length rc] 175))
   have CP:∀ b o,b<w4.heap.size->W5.cell? ⟨b,o,none⟩=w4.cell? ⟨b,o,none⟩:=fun b o hb=>by
    rw [Cq,World.cell?_alloc_lt _ _ _ (by simpa using hb),Uc e4]
   have hz5:W5.heap.size=w4.heap.size+1:=(by rw [Cq];simp);have zui:Sl W5 W5.heap.size RA (ZA recs):=by
    rcases hs4 with h|⟨b,off,hA,hb,hcc⟩
    · exact .inl h
    · exact .inr ⟨b,off,hA,by omega,fun j u hu=>(CP b _ hb).trans (hcc j u hu)⟩
   have zuh:Sl W5 W5.heap.size HA (rgCells hrs):=by
    have h4:=(HHS.out.kept hk4).sl (fun k hk=>Nat.lt_of_lt_of_le (zrr.out k hk) hk4.size);rcases h4 with h|⟨b,off,hA,hb,hcc⟩
    · exact .inl h
    · exact .inr ⟨b,off,hA,by omega,fun j u hu=>(CP b _ hb).trans (hcc j u hu)⟩
   have E5:Z6 W5 (ob+1) 94 #[.int .i64 0]:=(by rw [Cq];exact (E4.set 0 (.int .i64 0)).alloc _);have O5:Z6 W5 ob 49 #[.slice none 0 0]:=(by rw [Cq];exact (O4.far (p:=⟨ob+1,0,none⟩) (by dsimp only;omega) _).alloc _);have hnE:¬ NT t w.heap.size (ob+1):=jH.out.2;have hnO:¬ NT t w.heap.size ob:=jH.out.1;have Et:∀ k,NT t w.heap.size k->k<w4.heap.size:=fun k hk=>Nat.lt_of_lt_of_le (zrr.out k (aI.out k hk)) hk4.size;have hk5:Z8 (NT t w.heap.size) w W5:=by
    rw [Cq];refine ((Z8.of_below HB3.out fun k hk=>hk.1).trans ((hk4.mono aI.out).trans (Z8.setCell hnE _ _ _))).trans (Z8.of_below (bA) fun k hk=>by simpa using Et k hk)
   have Sz:Tp W5 (NT t W3.heap.size) t EV:=(by rw [Cq];exact (KL.set xJ.out.2 _ _).step (bA));have aM:=Gn op vs Z0 hrs HA hc2 val cnt recs RA rc W5 zuh (by unfold maxLen;have:=HHL.out;omega) zui qy.out;rw [zsa.out] at aM;have HRS:=hide aM;have HW5:=hide Cq;have HE5:=hide E5;have HO5:=hide O5;have HK5:=hide hk5;have HT5:=hide Sz;have HZ5:=hide hz5;clear E4 O4 Q4 hk4 KL hs4 CP zui zuh E5 O5 hnE hnO Et hk5 Sz aM hz5 e1 fe1 c0 HHD;go_wp2_with fail;rw [<- HW5.out];refine HRS.out.mono ?_;rintro e w6 ⟨v,rfl,hv6,hb6⟩;obtain ⟨VA,UN,rfl,hvc⟩:=Zl hv6;dsimp only at hvc;have E6:=HE5.out.step hb6;have O6:=HO5.out.step hb6;have e6:w6.cell? ⟨ob+1,0,none⟩=some (.int .i64 0):=E6.q0 rfl;have fe6:=E6.frozen 0;have o6:=O6.q0 rfl;have fo6:=O6.frozen 0;have zug:=Sl.Xw hv6
   have zul:ZY RB≠[]->∀ x,VA=some x->x.block≠ob/\x.block≠ob+1:=fun _ x hx=>by
    subst hx;have h:=ZG hv6 (k:=x.block) (by rcases hv6.2 with ⟨h,_⟩|⟨g',cap,cur,h,_⟩ <;> cases h;rfl);have:=HZ5.out;exact ⟨by omega,by omega⟩
   have HE6:=hide E6;have HO6:=hide O6;have ah:=hide hb6;have zou:=hide zug;have HVC:=hide hvc;have aV:=hide zul;clear E6 O6 hb6 zug hv6 hvc zul q0 q1 q2 q3 e4 fe4 HRS;go_wp2;obtain ⟨W7,Qy⟩:=eE ((((w6.setCell ⟨ob,0,none⟩ (.slice VA RB.length UN)).setCell ⟨ob+1,0,none⟩ (.int .i64 0)).setCell ⟨ob,0,none⟩ (.slice VA RB.length UN)));rw [<- Qy];have E7:Z6 W7 (ob+1) 94 #[.int .i64 0]:=by
    rw [Qy];exact (((HE6.out.far (p:=⟨ob,0,none⟩) (by dsimp only;omega) _).set 0 (.int .i64 0)).far (p:=⟨ob,0,none⟩) (by dsimp only;omega) _)
   have O7:Z6 W7 ob 49 #[.slice VA RB.length UN]:=by
    rw [Qy];exact ((HO6.out.set 0 (.slice VA RB.length UN)).far (p:=⟨ob+1,0,none⟩) (by dsimp only;omega) _).set 0 (.slice VA RB.length UN)
   refine leaves_cons (f:=163) (args:=#[.pointer (some ⟨ob+1,0,none⟩),.pointer (some ⟨ob,0,none⟩)]) (by simp) (by simp [go_sem,invoke]) ?_;refine (PU (ob+1) ob 0 _ W7 E7 O7 (by omega) (by omega) .returning).mono ?_;rintro e u' w' ⟨rfl,rfl,h⟩;rcases h with ⟨_,rfl⟩|⟨h,_⟩
   · have o7:=O7.q0 rfl;have Tk:∀ k,NT t w.heap.size k->k<W5.heap.size:=fun k hk=>Nat.lt_of_lt_of_le hk.1 HK5.out.size;refine ⟨.slice VA RB.length UN,by simp [results,Tryz.results114,go_sem,o7],?_⟩;refine aR.out _ _ ⟨VA,UN,rfl,HVC.out,?_,?_,?_⟩
     · rw [Qy];exact (HK5.out.trans (Z8.of_below ah.out Tk)).trans ((Z8.setCell jH.out.1 _ _ _).trans ((Z8.setCell jH.out.2 _ _ _).trans (Z8.setCell jH.out.1 _ _ _)))
     · rw [Qy];exact ((((HT5.out.step ah.out).set xJ.out.1 _ _).set xJ.out.2 _ _).set xJ.out.1 _ _).mono aI.out
     · rw [Qy];exact (((zou.out.Ur (fun h x hx=>(aV.out h x hx).1) _).Ur (fun h x hx=>(aV.out h x hx).2) _).Ur (fun h x hx=>(aV.out h x hx).1) _)
   · exact absurd rfl h
 · have hd:Zr bs=(Yx,YX bs):=(by unfold Zr;rw [if_neg hc]);have hsv:YZ bs=[YX bs]:=(by unfold YZ;rw [hd,if_pos hc]);have hse:Qo bs=[]:=by unfold Qo;rw [hd,if_pos hc]
   have aR:Hid (∀ e w',(∃ A c,e=.returned (.slice A 1 c)/\1<=c/\Z8 (NT t w.heap.size) w w'/\Tp w' (NT t w.heap.size) t []/\Sl w' w'.heap.size A (ZY [YX bs]))->K9 t bs w e w'):=fun e w' h=>by
    unfold K9;rw [hsv,hse];exact h
   rw [hd] at HD;obtain ⟨er,her⟩:=eE (YX bs);rw [<- her] at hc hcb aR HD;clear hd hsv hse her hby hmax;go_enter_defers func114,ntmps114;go_wp2_with fail;rw [<- hw0,<- Sw];have HW0:=hide hw0;have HOB:=hide Sw;clear hw0 Sw;refine HD.out.mono ?_;rintro e w1 ⟨hrs,HA,hc2,gs,GA,gc,PA,pc,QA,qc,rfl,hb1,hr1,_⟩;unfold OC;dsimp only;have E1:=HE0.out.step hb1;have O1:=HO0.out.step hb1;have e1:=E1.q0 rfl;have fe1:=E1.frozen 0;have o1:=O1.q0 rfl;have fo1:=O1.frozen 0;have hB1:=hide (Z9 HB0.out hb1);have qh:=hide E1;have HO1:=hide O1;have hl1:ob+1<w1.heap.size:=E1.lt;have hl0:ob<w1.heap.size:=O1.lt;clear hb1 hr1 E1 O1 HD;go_wp2;obtain ⟨W5,Cq⟩:=eE ((((w1.setCell ⟨ob+1,0,none⟩ (.int .i64 er)).setCell ⟨ob,0,none⟩ (.slice none 0 0)).alloc (.cells #[.int .i64 Yx.h.op,.int .i64 Yx.h.vs,.slice HA hrs.length hc2,.int .i64 Yx.h.Z0,.slice GA gs.length gc,.slice PA Yx.ps.length pc,.slice QA Yx.qs.length qc] 182)));rw [<- Cq];have E5:Z6 W5 (ob+1) 94 #[.int .i64 er]:=by
    rw [Cq];exact ((qh.out.set 0 (.int .i64 er)).far (p:=⟨ob,0,none⟩) (by dsimp only;omega) _).alloc _
   have O5:Z6 W5 ob 49 #[.slice none 0 0]:=by
    rw [Cq];exact ((HO1.out.far (p:=⟨ob+1,0,none⟩) (by dsimp only;omega) _).set 0 (.slice none 0 0)).alloc _
   have qD:Below w.heap.size w W5:=by
    rw [Cq];have hr:w.heap.size<=ob:=(by rw [HOB.out];exact Nat.le_refl _);exact Z7 ((hB1.out.setCell (p:=⟨ob+1,0,none⟩) (by dsimp only;omega) _).setCell (p:=⟨ob,0,none⟩) hr _) _
   refine leaves_cons (f:=163) (args:=#[.pointer (some ⟨ob+1,0,none⟩),.pointer (some ⟨ob,0,none⟩)]) (by simp) (by simp [go_sem,invoke]) ?_;refine (PU (ob+1) ob er _ W5 E5 O5 hcb.1 (by omega) .returning).mono ?_;rintro e u' w' ⟨rfl,rfl,h⟩;rcases h with ⟨h,_⟩|⟨_,rfl⟩
   · exact absurd h hc
   have O6:=(O5.alloc (.cells #[.int .u8 er] 5)).set 0 (.slice (some ⟨W5.heap.size,0,none⟩) 1 1);have o6:=O6.q0 rfl;have zmv:=O5.lt;have hr:w.heap.size<=ob:=(by rw [HOB.out];exact Nat.le_refl _);have hB6:=(Z7 qD (.cells #[.int .u8 er] 5)).setCell (p:=⟨ob,0,none⟩) hr (.slice (some ⟨W5.heap.size,0,none⟩) 1 1);refine ⟨.slice (some ⟨W5.heap.size,0,none⟩) 1 1,by simp [results,Tryz.results114,go_sem,o6],?_⟩;have hnt:∀ k,NT t w.heap.size k->k<w.heap.size:=fun k hk=>hk.1;refine aR.out _ _ ⟨some ⟨W5.heap.size,0,none⟩,1,rfl,Nat.le_refl _,Z8.of_below hB6 hnt,(HF.out.tp fun k hk=>hk.2).step hB6,?_⟩;refine (Sl.Qp (UK (Z6.new W5 5 #[.int .u8 er]) fun j u hu=>?_) (by omega) _);rw [<- hu];show ([.int .u8 er]:List Value).toArray[j]?=_;rw [List.getElem?_toArray];rfl
theorem Kq(bs:List Int)(A:Option Addr)(c:Nat)(w:World)(hs:Sl w w.heap.size A (ZY bs))(hcap:bs.length<=c)(hby:By bs)(hmax:bs.length<=300000)(hfix:Fixed w)(hg:9<w.heap.size)(hw:MW w):
 Calls prog 67 #[.slice A bs.length c] w fun e w'=>∃ A' c',e=.returned (.slice A' (YZ bs).length c')/\(YZ bs).length<=c'/\Below w.heap.size w w'/\Sl w' w'.heap.size A' (ZY (YZ bs)):=by
 have H:=hide (Ec none bs A c w hs hcap hby hmax hfix hg hw trivial (.inl rfl));clear hs hcap hby hmax hfix hg hw;go_enter func67,ntmps67;go_wp2_with fail;refine H.out.mono ?_;rintro e w1 ⟨A',c',rfl,hc,hk,_,hs1⟩;go_wp2;go_ret;exact ⟨A',c',rfl,hc,⟨hk.os,hk.tape,hk.output,hk.size,fun k hb=>hk.block k ⟨hb,fun u hu=>by cases hu⟩⟩,hs1⟩
end
section
open Go.RowKit Go.Shelf
theorem slb{w:World}{g:Nat}{t:TypeId}{xs:List Value}(h:Z6 w g t xs.toArray):Sl w w.heap.size (some ⟨g,0,none⟩) xs :=
 Sl.mk h.lt fun j u hu=>by rw [Nat.zero_add];exact h.cell (by simpa using hu)
theorem bJ{bs:List Int}(h:(bs.all fun x=>decide (0<=x) && decide (x<=255))=true):By bs:=by
 intro x hx;have:=List.all_eq_true.1 h x hx;simpa using this
def sj:List Int:=[1]++List.replicate 16 0++[1]++List.replicate 23 0++[1]++List.replicate 7 0
theorem wF:YZ []=[4]:=by decide +kernel
theorem zyh:YZ sj=[0,2]:=by decide +kernel
theorem zsf:By sj:=bJ (by decide)
def Gives(bs:List Int)(n:Nat)(w:World)(e:Ending)(w':World):Prop:=∃ A c,e=.returned (.slice A n c)/\Below w.heap.size w w'/\Sl w' w'.heap.size A (ZY bs)
end
section
open Go.RowKit Go.Shelf
structure Hg(w:World)(hrs:List Rg)(HA:Option Addr)(gs:List Gr)(GA:Option Addr)(ps:List Pt)(PA:Option Addr)(pc:Nat)(qs:List ((Int × Int) × Int))(QA:Option Addr):Prop where
 hh:Sl w w.heap.size HA (rgCells hrs)
 hn:hrs.length<=maxLen
 hg:Sl w w.heap.size GA (rgCells (gs.map (·.1)))
 gn:gs.length<=maxLen
 gk:Ey w w.heap.size gs
 gj:∀ g∈gs,Ub g.2
 hp:Sl w w.heap.size PA (Zg ps)
 pj:Ub ps
 cap:ps.length<=pc
 hq:Sl w w.heap.size QA (Wt qs)
 qj:∀ q∈qs,PJ q.1
 qu:∀ q∈qs,Vo q.2
section
variable {w:World}{hrs:List Rg}{HA:Option Addr}{gs:List Gr}{GA:Option Addr}{ps:List Pt}{PA:Option Addr}{pc:Nat}{qs:List ((Int × Int) × Int)}{QA:Option Addr}
theorem Hg.below{w':World}(h:Hg w hrs HA gs GA ps PA pc qs QA)(hb:Below w.heap.size w w'):Hg w' hrs HA gs GA ps PA pc qs QA :=
 ⟨(h.hh.below hb).more hb.size,h.hn,(h.hg.below hb).more hb.size,h.gn,fun g hg=>⟨(h.gk g hg).1,((h.gk g hg).2.below hb).more hb.size⟩,h.gj,(h.hp.below hb).more hb.size,h.pj,h.cap,(h.hq.below hb).more hb.size,h.qj,h.qu⟩
theorem Hg.len(h:Hg w hrs HA gs GA ps PA pc qs QA):∀ g∈gs,g.1.n=g.2.length:=fun g hg=>(h.gk g hg).1
end
theorem By.append{a b:List Int}(ha:By a)(hb:By b):By (a++b):=fun x hx=>by
 rcases List.mem_append.1 hx with h|h
 · exact ha x h
 · exact hb x h
end
end Go.Proofs.YthnenedoblncjaaGreatDoor