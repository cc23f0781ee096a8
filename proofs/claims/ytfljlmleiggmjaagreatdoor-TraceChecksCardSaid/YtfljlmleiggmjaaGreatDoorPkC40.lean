/- RefEv20 RefEv20B Handle ServeMath Serve ServeFacts EvMath21 TraceMath RefEv20C -/
import Derived.Defers
import Derived.Test.YtfljlmleiggmjaaGreatDoorPkC10
import Derived.Test.YtfljlmleiggmjaaGreatDoorPkC13
import Derived.Test.YtfljlmleiggmjaaGreatDoorPkC37
import Derived.Test.YtfljlmleiggmjaaGreatDoorPkC39
set_option maxRecDepth 1000000
set_option maxHeartbeats 8000000
namespace Go.Proofs.YtfljlmleiggmjaaGreatDoor
section
open Go.RowKit Go.Shelf
theorem cntEv_len (k:Nat):(cntEv k).length=k:=by unfold cntEv;rw [List.length_map,List.length_range]
end
section
open Go.RowKit Go.Shelf
theorem pairEv_len (cs:List (Nat × Nat)):(pairEv cs).length=cs.length:=by simp [pairEv]
end
section
open Go.RowKit Go.Shelf
structure ReqP (w:World) (P:Nat→Prop) (hrs:List Rg) (HA:Option Addr) (gs:List Gr) (GA:Option Addr) (ps:List Pt) (PA:Option Addr) (pc:Nat) (qs:List ((Int × Int) × Int)) (QA:Option Addr):Prop where
 hh:SlP w P HA (rgCells hrs)
 hn:hrs.length≤maxLen
 hg:SlP w P GA (rgCells (gs.map (·.1)))
 gk:GsP w P gs
 hp:SlP w P PA (ptCs ps)
 pj:PsJ ps
 cap:ps.length≤pc
 hq:SlP w P QA (quCs qs)
 qj:∀ q∈qs,PJ q.1
 qu:∀ q∈qs,U64 q.2
theorem ReqP.kept {w w':World} {P R:Nat→Prop} {hrs:List Rg} {HA:Option Addr} {gs:List Gr} {GA:Option Addr} {ps:List Pt} {PA:Option Addr} {pc:Nat} {qs:List ((Int × Int) × Int)} {QA:Option Addr} (h:ReqP w P hrs HA gs GA ps PA pc qs QA) (hk:KeepP P w w') (hR:∀ k,P k→R k):ReqP w' R hrs HA gs GA ps PA pc qs QA :=
 ⟨(h.hh.kept hk).mono hR,h.hn,(h.hg.kept hk).mono hR,fun g hg=>⟨(h.gk g hg).1,((h.gk g hg).2.1.kept hk).mono hR,(h.gk g hg).2.2⟩,(h.hp.kept hk).mono hR,h.pj,h.cap,(h.hq.kept hk).mono hR,h.qj,h.qu⟩
theorem ReqP.gsOk {w:World} {P:Nat→Prop} {hrs:List Rg} {HA:Option Addr} {gs:List Gr} {GA:Option Addr} {ps:List Pt} {PA:Option Addr} {pc:Nat} {qs:List ((Int × Int) × Int)} {QA:Option Addr} (h:ReqP w P hrs HA gs GA ps PA pc qs QA) {B:Nat} (hP:∀ k,P k→k<B):GsOk w B gs :=
 fun g hg=>⟨(h.gk g hg).1,(h.gk g hg).2.1.sl hP⟩
def hhandle (op vs:Int) (hrs:List Rg) (pts:Int) (gs:List Gr) (ps:List Pt) (qs:List ((Int × Int) × Int)):Ans × Int :=
 if (hencode op vs hrs pts gs ps qs).2≠0 then (ansZero,(hencode op vs hrs pts gs ps qs).2) else if op=5 then hbatch gs qs else (⟨ansOp op gs ps,0,[]⟩,0)
def handleEv (op vs:Int) (hrs:List Rg) (pts:Int) (gs:List Gr) (ps:List Pt) (qs:List ((Int × Int) × Int)):List Ev :=
 if (hencode op vs hrs pts gs ps qs).2≠0 then [] else if op=5 then batchEv gs qs.length else opEv op gs ps
theorem answer_w (P:Nat→Prop) (t:Option (Nat × Nat)) (es:List Ev) (op vs pts:Int) (hrs:List Rg) (HA:Option Addr) (hc:Nat) (gs:List Gr) (GA:Option Addr) (gc:Nat) (ps:List Pt) (PA:Option Addr) (pc:Nat) (qs:List ((Int × Int) × Int)) (QA:Option Addr) (qc:Nat) (w:World) (hP:∀ k,P k→k<w.heap.size) (hg0:P 3) (hw:MW w) (ht:Tp w P t es) (hl:t=none∨es.length≤600000)
 (h:ReqP w P hrs HA gs GA ps PA pc qs QA) :
 Calls Tryz.prog 105 #[.pointer (tapeA t),.agg #[.int .i64 op,.int .i64 vs,.slice HA hrs.length hc,.int .i64 pts,.slice GA gs.length gc,.slice PA ps.length pc,.slice QA qs.length qc]] w fun e w'=>e=.returned (.tuple #[.agg #[.int .i64 (ansV op vs hrs pts gs ps qs).1,.int .i64 0,.slice none 0 0],.int .i64 (ansV op vs hrs pts gs ps qs).2])∧KeepP P w w'∧Tp w' P t (es++ansEv op vs hrs pts gs ps qs):=by
 rcases hl with rfl | hl
 · refine (answer_any P none [] op vs pts hrs HA hc gs GA gc ps PA pc qs QA qc w hP hg0 hw trivial (by simp) h.pj h.hp h.cap h.hg h.gk h.hh h.hn (h.hq.sl hP)).mono ?_
   rintro e w' ⟨h1,h2,_⟩
   exact ⟨h1,h2,trivial⟩
 · exact answer_any P t es op vs pts hrs HA hc gs GA gc ps PA pc qs QA qc w hP hg0 hw ht hl h.pj h.hp h.cap h.hg h.gk h.hh h.hn (h.hq.sl hP)
theorem Sl.set_farP {w:World} {A:Option Addr} {xs:List Value} {b o:Nat} (h:Sl w w.heap.size A xs) (hne:xs≠[]→∀ x,A=some x→x.block≠b) (u:Value):Sl (w.setCell ⟨b,o,none⟩ u) (w.setCell ⟨b,o,none⟩ u).heap.size A xs :=
 (h.far (p:=⟨b,o,none⟩) hne u).more (by simp)
theorem ansOut_end {P Q:Nat→Prop} {t:Option (Nat × Nat)} {es' es2:List Ev} {r:Ans × Int} {w w2:World} {g c:Nat} {A:Option Addr} {val cnt er:Int} {recs:List (Int × Int)} {u0 u1 u2:Value} (hr:r=(⟨val,cnt,recs⟩,er)) (he:es'=es2) (hk:KeepP P w w2) (hnp:¬ P g) (ht:Tp w2 Q t es2) (hg:Q g) (hsub:∀ k,P k→Q k)
 (hs:Sl w2 w2.heap.size A (recCs recs)) (hne:recs≠[]→∀ x,A=some x→x.block≠g) :
 AnsOut P t es' r w (.returned (.tuple #[.agg #[.int .i64 val,.int .i64 cnt,.slice A recs.length c],.int .i64 er])) (((w2.setCell ⟨g,0,none⟩ u0).setCell ⟨g,1,none⟩ u1).setCell ⟨g,2,none⟩ u2):=by
 subst hr
 subst he
 have hne':recCs recs≠[]→∀ x,A=some x→x.block≠g:=fun h=>hne fun e=>h (by rw [e];rfl)
 exact ⟨A,c,rfl,hk.trans ((KeepP.setCell hnp _ _ _).trans ((KeepP.setCell hnp _ _ _).trans (KeepP.setCell hnp _ _ _))),(((ht.set hg _ _).set hg _ _).set hg _ _).mono hsub,((hs.set_farP hne' _).set_farP hne' _).set_farP hne' _⟩
theorem handle_any (P:Nat→Prop) (t:Option (Nat × Nat)) (es:List Ev) (op vs pts:Int) (hrs:List Rg) (HA:Option Addr) (hc:Nat) (gs:List Gr) (GA:Option Addr) (gc:Nat) (ps:List Pt) (PA:Option Addr) (pc:Nat) (qs:List ((Int × Int) × Int)) (QA:Option Addr) (qc:Nat) (w:World) (hP:∀ k,P k→k<w.heap.size) (hg0:P 3) (hw:MW w) (ht:Tp w P t es) (hl:t=none∨es.length+4161*qs.length+(netw (lg qs.length)).length≤600000)
 (hr:ReqP w P hrs HA gs GA ps PA pc qs QA) :
 Calls Tryz.prog 59 #[.pointer (tapeA t),.agg #[.int .i64 op,.int .i64 vs,.slice HA hrs.length hc,.int .i64 pts,.slice GA gs.length gc,.slice PA ps.length pc,.slice QA qs.length qc]] w (AnsOut P t (es++handleEv op vs hrs pts gs ps qs) (hhandle op vs hrs pts gs ps qs) w):=by
 obtain ⟨rb,hrb⟩:∃ rb,rb=w.heap.size:=⟨_,rfl⟩
 obtain ⟨w0,hw0⟩:∃ w0,w0=(w.alloc (.cells #[.int .i64 op,.int .i64 vs,.slice HA hrs.length hc,.int .i64 pts,.slice GA gs.length gc,.slice PA ps.length pc,.slice QA qs.length qc] 100)).alloc (.cells #[.int .i64 0,.int .i64 0,.slice none 0 0] 103):=⟨_,rfl⟩
 have hb0:Below w.heap.size w w0:=by rw [hw0];exact bl_alloc (bA) _
 have B0:Blk w0 rb 100 #[.int .i64 op,.int .i64 vs,.slice HA hrs.length hc,.int .i64 pts,.slice GA gs.length gc,.slice PA ps.length pc,.slice QA qs.length qc]:=by rw [hw0,hrb];exact (Blk.new _ _ _).alloc _
 have C0:Blk w0 (rb+1) 103 #[.int .i64 0,.int .i64 0,.slice none 0 0]:=by rw [hw0,hrb];exact Blk.new2 _ _ _ _
 have hk0:KeepP P w w0:=KeepP.of_below hb0 hP
 have hP0:∀ k,P k→k<w0.heap.size:=fun k hk=>Nat.lt_of_lt_of_le (hP k hk) hb0.size
 have hr0:=hr.kept hk0 (R:=P) fun k h=>h
 have HEN0:=encode_any op vs pts hrs HA hc gs GA gc ps PA pc qs QA qc w0 (hr0.hh.sl hP0) (hr0.hg.sl hP0) (hr0.gsOk hP0) (hr0.hp.sl hP0) (hr0.hq.sl hP0) hr.hn
 have HAN:Hid (hhandle op vs hrs pts gs ps qs=if (hencode op vs hrs pts gs ps qs).2≠0 then (ansZero,(hencode op vs hrs pts gs ps qs).2) else if op=5 then hbatch gs qs else (⟨ansOp op gs ps,0,[]⟩,0)):=rfl
 have HEV:Hid (handleEv op vs hrs pts gs ps qs=if (hencode op vs hrs pts gs ps qs).2≠0 then [] else if op=5 then batchEv gs qs.length else opEv op gs ps):=rfl
 have HAV:Hid (ansV op vs hrs pts gs ps qs=if (hencode op vs hrs pts gs ps qs).2≠0 then (0,(hencode op vs hrs pts gs ps qs).2) else if op=5 then (0,2) else (ansOp op gs ps,0)):=rfl
 have HAE:Hid (ansEv op vs hrs pts gs ps qs=if (hencode op vs hrs pts gs ps qs).2≠0 then [] else opEv op gs ps):=rfl
 obtain ⟨⟨bs,err⟩,hE⟩:∃ E,E=hencode op vs hrs pts gs ps qs:=⟨_,rfl⟩
 rw [← hE] at HEN0 HAN HEV HAV HAE
 have HEN:=hide HEN0
 have HP:=hide hP;have HG:=hide hg0;have HT:=hide ht;have HB0:=hide hb0;have HR:=hide hr;have HW:=hide hw;have HL:=hide hl
 have HNP:Hid (¬ P (rb+1)):=fun h=>by have:=hP _ h;omega
 have HM:Hid (∀ k,Also (Also P rb) (rb+1) k→P k∨w.heap.size≤k):=fun k hk=>by
  rcases hk with (hk | hk) | hk
  · exact .inl hk
  · exact .inr (by omega)
  · exact .inr (by omega)
 clear hE HEN0 hk0 hP hg0 hw ht hr hb0 hP0 hr0 hl
 dsimp only at *
 go_enter Tryz.func59,Tryz.ntmps59
 go_wp2_with fail
 rw [← hw0,← hrb]
 have HW0:=hide hw0;have HRB:=hide hrb
 clear hw0 hrb
 refine HEN.out.mono ?_
 rintro e w1 ⟨v,rfl,hv1,hb1⟩
 have B1:=B0.step hb1
 have C1:=C0.step hb1
 have hB1:=bl_step HB0.out hb1
 obtain ⟨VA,vcap,rfl,_⟩:=own_slice hv1
 have hK1:KeepP P w w1:=KeepP.of_below hB1 HP.out
 have hP1:∀ j,Also (Also P rb) (rb+1) j→j<w1.heap.size:=fun j hj=>by
  rcases hj with (hj | hj) | hj
  · exact Nat.lt_of_lt_of_le (HP.out j hj) hK1.size
  · subst hj;exact B1.lt
  · subst hj;exact C1.lt
 have ht1:Tp w1 (Also (Also P rb) (rb+1)) t es:=(HT.out.add HM.out).step hB1
 have hsub:∀ k,P k→Also (Also P rb) (rb+1) k:=fun k h=>.inl (.inl h)
 have hr1:=HR.out.kept hK1 hsub
 have hw1:=HW.out.kept hK1 HG.out
 have c0:=B1.cell (i:=0) rfl
 have c1:=B1.cell (i:=1) rfl
 have c2:=B1.cell (i:=2) rfl
 have c3:=B1.cell (i:=3) rfl
 have c4:=B1.cell (i:=4) rfl
 have c5:=B1.cell (i:=5) rfl
 have c6:=B1.cell (i:=6) rfl
 have HK1:=hide hK1;have HC1:=hide C1;have HP1:=hide hP1;have HSUB:=hide hsub;have HB1:=hide hB1
 by_cases he:err=0
 · subst he
   by_cases h5:op=5
   · subst h5
     have HA2:Hid (hhandle 5 vs hrs pts gs ps qs=hbatch gs qs):=hide (HAN.out.trans ((if_neg (by simp)).trans (if_pos rfl)))
     have HE2:Hid (handleEv 5 vs hrs pts gs ps qs=batchEv gs qs.length):=hide (HEV.out.trans ((if_neg (by simp)).trans (if_pos rfl)))
     have HRUN:=hide (run_any (Also (Also P rb) (rb+1)) t es gs GA gc qs QA qc hr1.qj hr1.qu w1 hP1 (HSUB.out _ HG.out) hr1.hg hr1.gk hr1.hq hw1 ht1 HL.out)
     clear hK1 C1 hP1 ht1 hr1 hw1 hB1 hb1 hv1 HAN HEV HAV HAE B1 hsub
     go_wp2_with fail
     refine HRUN.out.mono ?_
     rintro e w2 ⟨A,c,rfl,hk2,ht2,hs2⟩
     have C2:=HC1.out.kept hk2 (.inr rfl)
     have y0:=C2.cell (i:=0) rfl
     have y1:=C2.cell (i:=1) rfl
     have y2:=C2.cell (i:=2) rfl
     have g0:=C2.frozen 0
     have g1:=C2.frozen 1
     have g2:=C2.frozen 2
     obtain ⟨⟨⟨val,cnt,recs⟩,er⟩,hR⟩:∃ R,R=hbatch gs qs:=⟨_,rfl⟩
     have hsA:Sl w2 w2.heap.size A (recCs recs)∧(recs≠[]→∀ x,A=some x→x.block≠rb+1):=by
      refine ⟨by rw [← hR] at hs2;exact hs2,fun hne x hx=>?_⟩
      subst hx
      rw [← hR] at hs2
      intro hxe
      rcases hs2 with h | ⟨b,off,hb,_,hcell⟩
      · obtain ⟨r,l,rfl⟩:=List.exists_cons_of_ne_nil hne
        simp [recCs] at h
      · cases hb
        dsimp only at hxe
        subst hxe
        obtain ⟨r,l,rfl⟩:=List.exists_cons_of_ne_nil hne
        have h0:=hcell 0 (.int .u64 r.1) rfl
        have hh:w2.heap[rb+1]?=some (.cells #[.int .i64 0,.int .i64 0,.slice none 0 0] 103 (0,0)):=C2
        rw [cell_of_row w2 (rb+1) (off+0) _ _ _ hh] at h0
        have:off+0<3:=by
         have:=(Array.getElem?_eq_some_iff.1 h0).1
         simpa using this
        have h3:off+0=0∨off+0=1∨off+0=2:=by omega
        rcases h3 with h3 | h3 | h3 <;> rw [h3] at h0 <;> simp at h0
     rw [← hR]
     dsimp only
     have HSA:=hide hsA
     have HRR:=hide (((C2.set 0 (.int .i64 val)).set 1 (.int .i64 cnt)).set 2 (.slice A recs.length c))
     have HK2:=hide (HK1.out.trans (hk2.mono HSUB.out))
     have HT2:Hid (Tp w2 (Also (Also P rb) (rb+1)) t (es++batchEv gs qs.length)):=ht2
     have HRE:=hide hR
     clear hk2 ht2 hs2 C2 hsA hR c0 c1 c2 c3 c4 c5 c6
     go_wp2
     refine bodyPost_ret (results_c3 rfl rfl HRR.out) rfl ?_
     exact ansOut_end (by rw [HA2.out,HRE.out]) (by rw [HE2.out]) HK2.out HNP.out HT2.out (.inr rfl) HSUB.out HSA.out.1 HSA.out.2
   · have h5n:¬ (op:Int)=5:=h5
     have HA2:Hid (hhandle op vs hrs pts gs ps qs=(⟨ansOp op gs ps,0,[]⟩,0)):=hide (HAN.out.trans ((if_neg (by simp)).trans (if_neg h5)))
     have HE2:Hid (handleEv op vs hrs pts gs ps qs=opEv op gs ps):=hide (HEV.out.trans ((if_neg (by simp)).trans (if_neg h5)))
     have HAV2:ansV op vs hrs pts gs ps qs=(ansOp op gs ps,0):=HAV.out.trans ((if_neg (by simp)).trans (if_neg h5))
     have HAE2:ansEv op vs hrs pts gs ps qs=opEv op gs ps:=HAE.out.trans (if_neg (by simp))
     have HR0:=answer_w (Also (Also P rb) (rb+1)) t es op vs pts hrs HA hc gs GA gc ps PA pc qs QA qc w1 hP1 (HSUB.out _ HG.out) hw1 ht1 (by rcases HL.out with h | h;exact .inl h;exact .inr (by omega)) hr1
     rw [HAV2,HAE2] at HR0
     have HRUN:=hide HR0
     obtain ⟨val,hval⟩:∃ val,val=ansOp op gs ps:=⟨_,rfl⟩
     rw [← hval] at HRUN HA2
     clear hval HAV2 HAE2 HR0 hK1 C1 hP1 ht1 hr1 hw1 hB1 hb1 hv1 HAN HEV HAV HAE B1 hsub
     go_wp2_with fail
     refine HRUN.out.mono ?_
     rintro e w2 ⟨rfl,hk2,ht2⟩
     have C2:=HC1.out.kept hk2 (.inr rfl)
     have y0:=C2.cell (i:=0) rfl
     have y1:=C2.cell (i:=1) rfl
     have y2:=C2.cell (i:=2) rfl
     have g0:=C2.frozen 0
     have g1:=C2.frozen 1
     have g2:=C2.frozen 2
     have HRR:=hide (((C2.set 0 (.int .i64 val)).set 1 (.int .i64 0)).set 2 (.slice none 0 0))
     have HK2:=hide (HK1.out.trans (hk2.mono HSUB.out))
     have HT2:=hide ht2
     clear hk2 ht2 C2 c0 c1 c2 c3 c4 c5 c6
     go_wp2
     refine bodyPost_ret (results_c3 rfl rfl HRR.out) rfl ?_
     exact ansOut_end HA2.out (by rw [HE2.out]) HK2.out HNP.out HT2.out (.inr rfl) HSUB.out (Sl.nil _ _ _) (fun h=>absurd rfl h)
 · have hen:¬ (err:Int)=0:=he
   have HA2:Hid (hhandle op vs hrs pts gs ps qs=(ansZero,err)):=hide (HAN.out.trans (if_pos he))
   have HE2:Hid (handleEv op vs hrs pts gs ps qs=[]):=hide (HEV.out.trans (if_pos he))
   have C2:=HC1.out
   have y0:=C2.cell (i:=0) rfl
   have y1:=C2.cell (i:=1) rfl
   have y2:=C2.cell (i:=2) rfl
   have g0:=C2.frozen 0
   have g1:=C2.frozen 1
   have g2:=C2.frozen 2
   have HRR:=hide (((C2.set 0 (.int .i64 0)).set 1 (.int .i64 0)).set 2 (.slice none 0 0))
   have HT2:=hide ht1
   clear hK1 C1 hP1 ht1 hr1 hw1 hB1 hb1 hv1 HAN HEV HAV HAE B1 hsub C2 c0 c1 c2 c3 c4 c5 c6
   go_wp2
   refine bodyPost_ret (results_c3 rfl rfl HRR.out) rfl ?_
   exact ansOut_end HA2.out (by rw [HE2.out,List.append_nil]) HK1.out HNP.out HT2.out (.inr rfl) HSUB.out (Sl.nil _ _ _) (fun h=>absurd rfl h)
end
section
open Go.RowKit
def canG (g:Gr):Gr:=(⟨g.1.d,g.1.v,none,g.2.length,0⟩,g.2)
def cg (x:Gd):Gr:=(⟨x.1,x.2.1,none,x.2.2.length,0⟩,x.2.2)
theorem cg_gd (gs:List Gr):(gs.map gdOf).map cg=gs.map canG:=by rw [List.map_map];rfl
theorem can_fcheckL:∀ (gs:List Gr),(∀ g∈gs,g.1.n=g.2.length)→fcheckL ((gs.map canG).map (·.1))=fcheckL (gs.map (·.1))
 | [],_=>rfl
 | g::gs,h=>by
   have ih:=can_fcheckL gs fun x hx=>h x (List.mem_cons_of_mem _ hx)
   have hn:=h g (List.mem_cons_self ..)
   rw [List.map_cons,List.map_cons,List.map_cons,fcheckL,fcheckL,ih]
   show (if sizeOfReg g.1.v=0 then _ else if sizeOfReg g.1.v=(g.2.length:Int) then _ else _)=_
   rw [← hn]
theorem can_fcheck {gs:List Gr} (h:∀ g∈gs,g.1.n=g.2.length):fcheck ((gs.map canG).map (·.1))=fcheck (gs.map (·.1)):=by
 unfold fcheck
 rw [can_fcheckL gs h,List.length_map,List.length_map,List.length_map]
theorem can_fenceOk {gs:List Gr} (h:∀ g∈gs,g.1.n=g.2.length):fenceOk (gs.map canG)=fenceOk gs:=by
 unfold fenceOk fvOk
 rw [can_fcheck h,List.foldl_map]
 rfl
theorem can_memOk {gs:List Gr} (h:∀ g∈gs,g.1.n=g.2.length) (p:Pt):memOk (gs.map canG) p=memOk gs p:=by
 unfold memOk memF
 rw [can_fcheck h,List.foldl_map]
 rfl
theorem can_fvEv:∀ (i:Nat) (gs:List Gr),fvEv i (gs.map canG)=fvEv i gs
 | _,[]=>rfl
 | i,g::gs=>by rw [List.map_cons,fvEv,fvEv,can_fvEv (i+1) gs];rfl
theorem can_fmEv:∀ (i:Nat) (gs:List Gr),fmEv i (gs.map canG)=fmEv i gs
 | _,[]=>rfl
 | i,g::gs=>by rw [List.map_cons,fmEv,fmEv,can_fmEv (i+1) gs];rfl
theorem can_vEv {gs:List Gr} (h:∀ g∈gs,g.1.n=g.2.length):fenceVEv (gs.map canG)=fenceVEv gs:=by unfold fenceVEv;rw [can_fcheck h,can_fvEv]
theorem can_mEv {gs:List Gr} (h:∀ g∈gs,g.1.n=g.2.length):fenceMEv (gs.map canG)=fenceMEv gs:=by unfold fenceMEv;rw [can_fcheck h,can_fmEv]
theorem can_hrecs {gs:List Gr} (h:∀ g∈gs,g.1.n=g.2.length) (qs:List ((Int × Int) × Int)):hrecs (gs.map canG) qs=hrecs gs qs:=by
 unfold hrecs
 refine List.map_congr_left fun q _=>?_
 unfold hrec
 rw [can_fenceOk h,can_memOk h]
theorem can_bcheck {gs:List Gr} (h:∀ g∈gs,g.1.n=g.2.length) (n:Nat):bcheck (gs.map canG) n=bcheck gs n:=by unfold bcheck;rw [can_fcheck h]
theorem can_hbatch {gs:List Gr} (h:∀ g∈gs,g.1.n=g.2.length) (qs:List ((Int × Int) × Int)):hbatch (gs.map canG) qs=hbatch gs qs:=by unfold hbatch;rw [can_bcheck h,can_fenceOk h,can_hrecs h]
theorem can_batchEv {gs:List Gr} (h:∀ g∈gs,g.1.n=g.2.length) (n:Nat):batchEv (gs.map canG) n=batchEv gs n:=by unfold batchEv itemEv;rw [can_bcheck h,can_vEv h,can_mEv h]
theorem can_ansOp {gs:List Gr} (h:∀ g∈gs,g.1.n=g.2.length) (op:Int) (ps:List Pt):ansOp op (gs.map canG) ps=ansOp op gs ps:=by unfold ansOp fenceA;rw [can_fenceOk h,can_memOk h]
theorem can_opEv {gs:List Gr} (h:∀ g∈gs,g.1.n=g.2.length) (op:Int) (ps:List Pt):opEv op (gs.map canG) ps=opEv op gs ps:=by unfold opEv fenceEv;rw [can_vEv h,can_mEv h]
def qAns (q:Rq):Ans:=if q.h.op=5 then (hbatch (q.gs.map cg) q.qs).1 else ⟨ansOp q.h.op (q.gs.map cg) q.ps,0,[]⟩
def qEv (q:Rq):List Ev:=if q.h.op=5 then batchEv (q.gs.map cg) q.qs.length else opEv q.h.op (q.gs.map cg) q.ps
def hserve (bs:List Int):List Int:=if (hdecode bs).2≠0 then [(hdecode bs).2] else ansBytes (hdecode bs).1.h.op (qAns (hdecode bs).1).val (qAns (hdecode bs).1).cnt (qAns (hdecode bs).1).recs
def serveEv (bs:List Int):List Ev:=if (hdecode bs).2≠0 then [] else qEv (hdecode bs).1
theorem fcheck_zip:∀ (gs:List Gr) (hrs:List Rg),gs.length=hrs.length→(gs.zip hrs).any szBad=false→(gs.zip hrs).any kdBad=false→hrs.any wrongRg=false→fcheckL (gs.map (·.1))=0
 | [],[],_,_,_,_=>rfl
 | [],_::_,h,_,_,_=>by simp at h
 | _::_,[],h,_,_,_=>by simp at h
 | g::gs,r::hrs,hl,hs,hk,hw=>by
   rw [List.zip_cons_cons,List.any_cons,Bool.or_eq_false_iff] at hs hk
   rw [List.any_cons,Bool.or_eq_false_iff] at hw
   have a3:=fcheck_zip gs hrs (by simpa using hl) hs.2 hk.2 hw.2
   have h1:(g.1.n:Int)=sizeOfReg r.v:=by have:=hs.1;unfold szBad at this;simpa using this
   have h2:g.1.v=r.v:=by
    have:=hk.1
    unfold kdBad at this
    rw [Bool.or_eq_false_iff] at this
    simpa using this.2
   have h3:sizeOfReg r.v≠0:=by have:=hw.1;unfold wrongRg at this;simpa using this
   show fcheckL (g.1::gs.map (·.1))=0
   unfold fcheckL
   rw [h2,if_neg h3,if_pos h1.symm]
   exact a3
theorem sign3' (x:Int):0≤x.sign+1∧x.sign+1≤2:=by rcases sign_bd x with h | h | h <;> rw [h] <;> decide
theorem ansOp_bd (op:Int) (gs:List Gr) (ps:List Pt):0≤ansOp op gs ps∧(op≠5→ansOp op gs ps≤most op):=by
 have hc:∀ ps p,0≤convexA ps p∧convexA ps p≤3:=fun ps p=>by
  have h:=sgnM_bd (locF (orientV ps) ps p (List.range (edgeN ps.length))).1 (locF (orientV ps) ps p (List.range (edgeN ps.length))).2
  have e:locV ps p=sgnM (locF (orientV ps) ps p (List.range (edgeN ps.length))).1 (locF (orientV ps) ps p (List.range (edgeN ps.length))).2:=rfl
  rw [← e] at h
  unfold convexA
  cases validV ps <;> simp <;> omega
 have hf:∀ p,0≤fenceA gs p∧fenceA gs p≤2:=fun p=>by
  unfold fenceA
  cases fenceOk gs <;> cases memOk gs p <;> decide
 unfold ansOp most
 by_cases o1:op=1
 · rw [if_pos o1,if_neg (by omega),if_neg (by omega)]
   have:=sign3' (orientD (ptAt ps 0) (ptAt ps 1) (ptAt ps 2))
   exact ⟨this.1,fun _=>this.2⟩
 rw [if_neg o1]
 by_cases o2:op=2
 · rw [if_pos o2,if_neg (by omega),if_neg (by omega)]
   have:=sign3' (circleD (ptAt ps 0) (ptAt ps 1) (ptAt ps 2) (ptAt ps 3))
   exact ⟨this.1,fun _=>this.2⟩
 rw [if_neg o2]
 by_cases o3:op=3
 · rw [if_pos o3,if_pos o3]
   have:=hc (ps.take (ps.length - 1)) (ptAt ps (ps.length - 1))
   exact ⟨this.1,fun _=>this.2⟩
 rw [if_neg o3,if_neg o3]
 have:=hf (ptAt ps 0)
 exact ⟨this.1,fun h5=>by rw [if_neg h5];exact this.2⟩
theorem handle_ok {op vs pts:Int} {hrs:List Rg} {gs:List Gr} {ps:List Pt} {qs:List ((Int × Int) × Int)} (h:(hencode op vs hrs pts gs ps qs).2=0) (hn:∀ g∈gs,g.1.n=g.2.length) (hq:∀ q∈qs,U64 q.2) {q:Rq} (e1:q.h.op=op) (e3:q.gs=gs.map gdOf) (e4:q.ps=ps) (e5:q.qs=qs) :
 hhandle op vs hrs pts gs ps qs=(qAns q,0)∧handleEv op vs hrs pts gs ps qs=qEv q∧isAns op pts (qAns q).val (qAns q).cnt (qAns q).recs=true∧hcheck op vs hrs pts=0:=by
 obtain ⟨hc,hgl,hpl,hql,hsz,hkd⟩:=hencode_ok h
 obtain ⟨o1,o5,c3,c4,c5,c6,c7,c8,_⟩:=hcheck_zero hc
 have hh:hhandle op vs hrs pts gs ps qs=if op=5 then hbatch gs qs else (⟨ansOp op gs ps,0,[]⟩,0):=if_neg (by simpa using h)
 have he:handleEv op vs hrs pts gs ps qs=if op=5 then batchEv gs qs.length else opEv op gs ps:=if_neg (by simpa using h)
 rw [hh,he]
 unfold qAns qEv
 rw [e1,e3,e4,e5,cg_gd,can_hbatch hn,can_batchEv hn,can_ansOp hn,can_opEv hn]
 by_cases h5:op=5
 · subst h5
   rw [if_pos rfl,if_pos rfl,if_pos rfl]
   have hpt:=c7 rfl
   have hqp:(qs.length:Int)=pts:=by rw [hql];unfold cntQ;rw [if_neg (by omega)]
   obtain ⟨l1,l2,l3⟩:=c5 (by omega)
   have hf:fcheck (gs.map (·.1))=0:=by
    unfold fcheck
    rw [if_neg (by rw [List.length_map];omega)]
    exact fcheck_zip gs hrs hgl hsz hkd l3
   have hb:bcheck gs qs.length=0:=by
    unfold bcheck
    rw [if_neg (by simpa using hf),if_neg (by omega)]
   have hr:hbatch gs qs=((hbatch gs qs).1,0):=by unfold hbatch;rw [if_neg (by simpa using hb)]
   refine ⟨hr,rfl,?_,hc⟩
   rw [← hqp]
   exact batch_isAns hq hb
 · rw [if_neg h5,if_neg h5,if_neg h5]
   refine ⟨rfl,rfl,?_,hc⟩
   have hp:=c8 h5
   have hb:=ansOp_bd op gs ps
   have hb2:=hb.2 h5
   unfold isAns
   dsimp only
   rw [if_neg (by omega),if_neg (by omega),if_neg (by simp [hp]),if_neg (by omega),if_neg (by unfold aLim;split <;> omega)]
   rfl
theorem dec_enc {bs:List Int} {q:Rq} (hby:By bs) (hd:hdecode bs=(q,0)) {hrs:List Rg} {gs:List Gr} (hk:hrs.map Rg.key=q.h.rs.map Rg.key) (hg:gs.map gdOf=q.gs) (hn:∀ g∈gs,g.1.n=g.2.length) :
 hencode q.h.op q.h.vs hrs q.h.pts gs q.ps q.qs=(bs,0):=by
 unfold hdecode at hd
 by_cases hc:hclass bs=0
 · rw [if_pos hc] at hd
   obtain ⟨⟨h,n,er⟩,hp⟩:∃ r,r=hparse bs:=⟨_,rfl⟩
   rw [← hp] at hd
   obtain ⟨z1,z2,z3,z4,z5,z6,_,_,z7⟩:=dec_facts hp.symm hc
   have hcan:=hparse_canonical bs (fun j x hj=>hby x (List.mem_of_getElem? hj))
   rw [← hp] at hcan
   obtain ⟨f1,f2,f3⟩:=hcan z1
   dsimp only at f1 f2 f3 hd
   have hspl:bs=fbytes h.op h.vs h.rs h.pts++bs.drop n.toNat:=by rw [f1,List.take_append_drop]
   have hfmt:=hparse_format z2 (bs.drop n.toNat)
   rw [← hspl,← hp] at hfmt
   have hrs2:h.rs=h.rs.map rgBack:=by
    have:=congrArg (fun r:PH × Int × Int=>r.1.rs) hfmt
    exact this
   have hh:h=⟨h.op,h.vs,h.rs.map rgBack,h.pts⟩:=by
    have:=congrArg (fun r:PH × Int × Int=>r.1) hfmt
    exact this
   have hq:rqOf h (bs.drop n.toNat)=q:=by
    have:=congrArg Prod.fst hd
    exact this
   subst hq
   have hl:((bs.drop n.toNat).length:Int)=16*(nSum h.rs:Int)+16*cntP h.op h.vs+24*cntQ h.op h.pts:=by rw [List.length_drop];omega
   have key:=hencode_canon (hrs:=hrs) (gs:=gs) z2 hl (hby.drop _) (by rw [← hrs2];exact hk) (by rw [← hrs2];exact hg) hn
   rw [← hrs2] at key
   have e:(rqOf ⟨h.op,h.vs,h.rs,h.pts⟩ (bs.drop n.toNat))=rqOf h (bs.drop n.toNat):=rfl
   rw [e] at key
   rw [← hspl] at key
   exact key
 · rw [if_neg hc] at hd
   have:=congrArg Prod.snd hd
   exact absurd this hc
end
section
open Go.RowKit Go.Shelf Go.Maps
def FreshT (w:World):Option (Nat × Nat)→Prop
 | none=>True
 | some u=>Blk w u.1 99 #[.slice none 0 0,.map (some u.2)]∧w.ownsMap (H:=Unit) Tryz.prog 3 (plainElem Tryz.prog 3) u.2 0 (.map [])
def NT (t:Option (Nat × Nat)) (n:Nat) (k:Nat):Prop:=k<n∧∀ u,t=some u→k≠u.1∧k≠u.2
theorem FreshT.tp {w:World} {t:Option (Nat × Nat)} {P:Nat→Prop} (h:FreshT w t) (hP:∀ k,P k→∀ u,t=some u→k≠u.1∧k≠u.2):Tp w P t []:=by
 cases t with
 | none=>trivial
 | some u=>exact ⟨.slice none 0 0,0,.map [],h.1,fun hp=>(hP _ hp u rfl).1 rfl,fun hp=>(hP _ hp u rfl).2 rfl,World.ownsRow_nil _ _ _ _,by simp [Value.ownBlock],by simp [Value.ownBlock],Nat.le_refl _,h.2⟩
theorem FreshT.step {w w':World} {t:Option (Nat × Nat)} (h:FreshT w t) (hb:Below w.heap.size w w'):FreshT w' t:=by
 cases t with
 | none=>trivial
 | some u=>exact ⟨h.1.step hb,h.2.kept (below_grown hb) (by simp)⟩
theorem FreshT.off {w:World} {t:Option (Nat × Nat)} (h:FreshT w t) {b o:Nat} {v:Value} (hc:w.cell? ⟨b,o,none⟩=some v) (hv:(∀ A n c,v≠.slice A n c)∧∀ m,v≠.map m):NT t w.heap.size b:=by
 refine ⟨cell_lt hc,?_⟩
 rintro u rfl
 refine ⟨fun e=>?_,fun e=>?_⟩
 · have hb:=h.1
   rw [← e] at hb
   rw [cell_of_row w b o _ _ (0,0) hb] at hc
   rcases o with _ | _ | o
   · simp at hc;exact hv.1 _ _ _ hc.symm
   · simp at hc;exact hv.2 _ hc.symm
   · simp at hc
 · have hm:=h.2
   rw [← e] at hm
   obtain ⟨es,clock,hh,_⟩:=hm
   simp [World.cell?,hh] at hc
theorem new_fresh (w:World):Calls Tryz.prog 29 #[] w fun e w'=>e=.returned (.pointer (tapeA (newT w)))∧Below w.heap.size w w'∧FreshT w' (newT w):=by
 have hmm:=@run_makeMap Tryz.prog
 go_enter Tryz.func29,Tryz.ntmps29
 go_wp2
 go_ret
 refine ⟨rfl,bl_alloc (bA) _,?_,(World.ownsMap_made w Tryz.prog 3 (plainElem Tryz.prog 3)).alloc _⟩
 have h:=Blk.new (w.alloc (.map #[] 0)) 99 #[.slice none 0 0,.map (some w.heap.size)]
 rw [World.size_alloc] at h
 exact h
theorem FreshT.slP {w:World} {t:Option (Nat × Nat)} (h:FreshT w t) {B:Nat} {A:Option Addr} {xs:List Value} (hs:Sl w B A xs) (hx:∀ v,xs[0]?=some v→(∀ A n c,v≠.slice A n c)∧∀ m,v≠.map m):SlP w (NT t w.heap.size) A xs:=by
 rcases hs with h0 | ⟨b,off,hA,hb,hc⟩
 · exact .inl h0
 · cases xs with
   | nil=>exact .inl rfl
   | cons x xs=>exact .inr ⟨b,off,hA,h.off (hc 0 x rfl) (hx x rfl),hc⟩
theorem rg_head (rs:List Rg):∀ v,(rgCells rs)[0]?=some v→(∀ A n c,v≠.slice A n c)∧∀ m,v≠.map m:=by
 intro v hv
 cases rs with
 | nil=>simp [rgCells] at hv
 | cons r rs=>simp [rgCells,Rg.cells] at hv;subst hv;exact ⟨fun _ _ _ h=>(by cases h),fun _ h=>(by cases h)⟩
theorem pt_head (ps:List (Int × Int)):∀ v,(ptCs ps)[0]?=some v→(∀ A n c,v≠.slice A n c)∧∀ m,v≠.map m:=by
 intro v hv
 cases ps with
 | nil=>simp [ptCs] at hv
 | cons r rs=>simp [ptCs] at hv;subst hv;exact ⟨fun _ _ _ h=>(by cases h),fun _ h=>(by cases h)⟩
theorem qu_head (ps:List ((Int × Int) × Int)):∀ v,(quCs ps)[0]?=some v→(∀ A n c,v≠.slice A n c)∧∀ m,v≠.map m:=by
 intro v hv
 cases ps with
 | nil=>simp [quCs] at hv
 | cons r rs=>simp [quCs] at hv;subst hv;exact ⟨fun _ _ _ h=>(by cases h),fun _ h=>(by cases h)⟩
theorem ptsOf_psJ (bs:List Int) (n:Nat):PsJ (ptsOf bs n):=by
 intro p hp
 obtain ⟨i,_,rfl⟩:=List.mem_map.1 hp
 unfold ptRd i64w wrap64
 exact ⟨⟨by dsimp only;omega,by dsimp only;omega⟩,by dsimp only;omega,by dsimp only;omega⟩
theorem regsOf_psJ:∀ (rs:List Rg) (bs:List Int),∀ g∈regsOf rs bs,PsJ g.2.2∧g.2.2.length≤10000
 | [],_,g,hg=>by cases hg
 | r::rs,bs,g,hg=>by
   unfold regsOf at hg
   rcases List.mem_cons.1 hg with rfl | hg
   · exact ⟨ptsOf_psJ _ _,by rw [ptsOf_length];exact Nat.le_trans (sizeN_le _) (by decide)⟩
   · exact regsOf_psJ rs _ g hg
theorem le8 {l:List Int} (hb:By l) (hl:l.length≤8):U64 (le l):=by
 obtain ⟨b0,b1⟩:=le_bd l hb
 generalize le l=L at b0 b1
 generalize l.length=k at hl b1
 have hk:k=0∨k=1∨k=2∨k=3∨k=4∨k=5∨k=6∨k=7∨k=8:=by omega
 exact ⟨b0,by rcases hk with rfl | rfl | rfl | rfl | rfl | rfl | rfl | rfl | rfl <;> simp at b1 <;> omega⟩
theorem dec_small {bs:List Int} {q:Rq} (hby:By bs) (hd:hdecode bs=(q,0)):PsJ q.ps∧(∀ x∈q.qs,PJ x.1∧U64 x.2)∧(∀ g∈q.gs,PsJ g.2.2∧g.2.2.length≤10000)∧hcheck q.h.op q.h.vs q.h.rs q.h.pts=0:=by
 unfold hdecode at hd
 by_cases hc:hclass bs=0
 · rw [if_pos hc] at hd
   have hq:rqOf (hparse bs).1 (bs.drop (hparse bs).2.1.toNat)=q:=congrArg Prod.fst hd
   obtain ⟨⟨h,n,er⟩,hp⟩:∃ r,r=hparse bs:=⟨_,rfl⟩
   obtain ⟨_,z2,_⟩:=dec_facts hp.symm hc
   rw [← hp] at hq
   subst hq
   refine ⟨ptsOf_psJ _ _,fun x hx=>?_,regsOf_psJ _ _,z2⟩
   obtain ⟨i,_,rfl⟩:=List.mem_map.1 hx
   refine ⟨?_,?_⟩
   · unfold quAt i64w wrap64
     exact ⟨⟨by dsimp only;omega,by dsimp only;omega⟩,by dsimp only;omega,by dsimp only;omega⟩
   · unfold quAt
     dsimp only
     exact le8 (((hby.drop _).drop _).drop _ |>.take _) (by unfold eight;rw [List.length_take];omega)
 · rw [if_neg hc] at hd
   exact absurd (congrArg Prod.snd hd) hc
theorem deferred_any (eb ob:Nat) (er:Int) (v:Value) (w:World) (hE:Blk w eb 28 #[.int .i64 er]) (hO:Blk w ob 36 #[v]) (h0:0≤er) (h1:er≤255) (u:FrameMode) :
 CallsD Tryz.prog 57 #[.pointer (some ⟨eb,0,none⟩),.pointer (some ⟨ob,0,none⟩)] u w fun e u' w'=>u'=u∧e=.returned (.tuple #[]) ∧
  (er=0∧w'=w∨er≠0∧w'=(w.alloc (.cells #[.int .u8 er] 5)).setCell ⟨ob,0,none⟩ (.slice (some ⟨w.heap.size,0,none⟩) 1 1)):=by
 have e0:=hE.cell (i:=0) rfl
 have o0:=(hO.alloc (.cells #[.int .u8 er] 5)).cell (i:=0) rfl
 have f0:=(hO.alloc (.cells #[.int .u8 er] 5)).frozen 0
 have hw8:IntKind.u8.wrap er=er:=by rw [IntKind.wrap_u8];omega
 by_cases he:er=0
 · subst he
   refine (callsD_of_wp (R:=fun e w'=>e=.returned (.tuple #[])∧w'=w) Tryz.func57 rfl ?_).mono ?_
   · simp only [Tryz.ntmps57,List.size_toArray,List.length_cons,List.length_nil,Nat.reduceAdd,Nat.reduceSub,Array.replicate_succ,Array.replicate_zero,List.push_toArray,List.append_toArray,List.nil_append,List.cons_append]
     go_wp2
     go_end0
     exact ⟨rfl,rfl⟩
   · rintro e u' w' ⟨rfl,rfl,rfl⟩
     exact ⟨rfl,rfl,.inl ⟨rfl,rfl⟩⟩
 · refine (callsD_of_wp (R:=fun e w'=>e=.returned (.tuple #[])∧w'=(w.alloc (.cells #[.int .u8 er] 5)).setCell ⟨ob,0,none⟩ (.slice (some ⟨w.heap.size,0,none⟩) 1 1)) Tryz.func57 rfl ?_).mono ?_
   · simp only [Tryz.ntmps57,List.size_toArray,List.length_cons,List.length_nil,Nat.reduceAdd,Nat.reduceSub,Array.replicate_succ,Array.replicate_zero,List.push_toArray,List.append_toArray,List.nil_append,List.cons_append]
     have e1:=(hE.alloc (.cells #[.int .u8 er] 5)).cell (i:=0) rfl
     go_wp2
     go_end0
     exact ⟨rfl,rfl⟩
   · rintro e u' w' ⟨rfl,rfl,rfl⟩
     exact ⟨rfl,rfl,.inr ⟨he,rfl⟩⟩
def ErOk (r:PH × Int × Int):Prop:=0≤r.2.2∧r.2.2≤8
theorem hclass_bd (bs:List Int):0≤hclass bs∧hclass bs≤8:=by
 have h:ErOk (hparse bs):=by
  unfold hparse
  repeat' (refine ite_ok (fun _=>?_) (fun _=>?_))
  all_goals exact ⟨by dsimp only;omega,by dsimp only;omega⟩
 unfold hclass
 unfold ErOk at h
 split
 · split <;> omega
 · exact h
def Served (t:Option (Nat × Nat)) (bs:List Int) (w:World) (e:Ending) (w':World):Prop :=
 ∃ A c,e=.returned (.slice A (hserve bs).length c)∧(hserve bs).length≤c∧KeepP (NT t w.heap.size) w w'∧Tp w' (NT t w.heap.size) t (serveEv bs)∧Sl w' w'.heap.size A (byCells (hserve bs))
theorem traced_any (t:Option (Nat × Nat)) (bs:List Int) (A:Option Addr) (c:Nat) (w:World) (hs:Sl w w.heap.size A (byCells bs)) (hcap:bs.length≤c) (hby:By bs) (hmax:bs.length≤300000) (hfix:Fixed w) (hg:1<w.heap.size) (hw:MW w) (hf:FreshT w t)
 (hl:t=none∨4161*(hdecode bs).1.qs.length+(netw (lg (hdecode bs).1.qs.length)).length≤600000) :
 Calls Tryz.prog 30 #[.pointer (tapeA t),.slice A bs.length c] w (Served t bs w):=by
 obtain ⟨ob,hob⟩:∃ ob,ob=w.heap.size:=⟨_,rfl⟩
 obtain ⟨w0,hw0⟩:∃ w0,w0=(w.alloc (.cells #[.slice none 0 0] 36)).alloc (.cells #[.int .i64 0] 28):=⟨_,rfl⟩
 have hb0:Below w.heap.size w w0:=by rw [hw0];exact bl_alloc (bA) _
 have O0:Blk w0 ob 36 #[.slice none 0 0]:=by rw [hw0,hob];exact (Blk.new _ _ _).alloc _
 have E0:Blk w0 (ob+1) 28 #[.int .i64 0]:=by rw [hw0,hob];exact Blk.new2 _ _ _ _
 have HD:=hide (decode_any bs A c w0 ((hs.below hb0).more hb0.size) hcap hby hmax (hfix.below hb0 hg) (Nat.lt_of_lt_of_le hg hb0.size))
 have hmf:∀ (fn:Fn) (first cap:Array Value) (w:World),(Instr.makeFunc fn first cap).run Tryz.prog w=.ok (.func fn first cap) w:=fun _ _ _ _=>rfl
 have HNOB:Hid (∀ n,ob+1<n→NT t n ob∧NT t n (ob+1)):=fun n hn=>by
  refine ⟨⟨by omega,?_⟩,by omega,?_⟩
  · rintro u rfl
    have h1:=hf.1.lt
    have h2:=hf.2.lt
    exact ⟨by omega,by omega⟩
  · rintro u rfl
    have h1:=hf.1.lt
    have h2:=hf.2.lt
    exact ⟨by omega,by omega⟩
 have HNN:Hid (¬ NT t w.heap.size ob∧¬ NT t w.heap.size (ob+1)):=⟨fun h=>by have:=h.1;omega,fun h=>by have:=h.1;omega⟩
 have HF:=hide hf;have HW:=hide hw;have HB0:=hide hb0;have HO0:=hide O0;have HE0:=hide E0;have HL:=hide hl
 have hcb:=hclass_bd bs
 have HFG:=hide hg;have HFX:=hide hfix
 clear hfix hg hf hw hb0 O0 E0 hl hs hcap
 by_cases hc:hclass bs=0
 · obtain ⟨q,hq⟩:∃ q,hdecode bs=(q,0):=⟨_,by unfold hdecode;rw [if_pos hc]⟩
   obtain ⟨dj1,dj2,dj3,dj4⟩:=dec_small hby hq
   obtain ⟨z1,z2,z3,z4,z5,z6,z7,z8,_⟩:=hcheck_zero dj4
   have hqrl:q.h.rs.length≤64:=by
    by_cases h4:4≤q.h.op
    · exact (z5 h4).2.1
    · rw [z6 (by omega)];simp
   have hsv:hserve bs=ansBytes q.h.op (qAns q).val (qAns q).cnt (qAns q).recs:=by unfold hserve;rw [hq,if_neg (by simp)]
   have hse:serveEv bs=qEv q:=by unfold serveEv;rw [hq,if_neg (by simp)]
   have HSD:Hid (∀ e w',(∃ A c,e=.returned (.slice A (ansBytes q.h.op (qAns q).val (qAns q).cnt (qAns q).recs).length c)∧(ansBytes q.h.op (qAns q).val (qAns q).cnt (qAns q).recs).length≤c∧KeepP (NT t w.heap.size) w w'∧Tp w' (NT t w.heap.size) t (qEv q)∧Sl w' w'.heap.size A (byCells (ansBytes q.h.op (qAns q).val (qAns q).cnt (qAns q).recs)))→Served t bs w e w'):=fun e w' h=>by
    unfold Served
    rw [hsv,hse]
    exact h
   have HOK:Hid (∀ hrs gs,hrs.map Rg.key=q.h.rs.map Rg.key→gs.map gdOf=q.gs→(∀ g∈gs,g.1.n=g.2.length)→hhandle q.h.op q.h.vs hrs q.h.pts gs q.ps q.qs=(qAns q,0)∧handleEv q.h.op q.h.vs hrs q.h.pts gs q.ps q.qs=qEv q∧isAns q.h.op q.h.pts (qAns q).val (qAns q).cnt (qAns q).recs=true∧hcheck q.h.op q.h.vs hrs q.h.pts=0) :=
    fun hrs gs hk hgd hn=>handle_ok (by rw [dec_enc hby hq hk hgd hn]) hn (fun x hx=>(dj2 x hx).2) rfl hgd.symm rfl rfl
   rw [hq] at HD HL
   have HDJ:=hide (And.intro dj1 (And.intro dj2 dj3))
   have HQL:=hide hqrl
   have HPT:=hide (And.intro z7 z8)
   clear hq hsv hse hby hmax hc hcb dj1 dj2 dj3 dj4 z1 z2 z3 z4 z5 z6 z7 z8 hqrl
   obtain ⟨⟨op,vs,rs0,pts⟩,gds,ps,qs⟩:=q
   dsimp only at *
   go_enter_defers Tryz.func30,Tryz.ntmps30
   go_wp2_with fail
   rw [← hw0,← hob]
   have HW0:=hide hw0;have HOB:=hide hob
   clear hw0 hob
   refine HD.out.mono ?_
   rintro e w1 ⟨hrs,HA,hc2,gs,GA,gc,PA,pc,QA,qc,rfl,hb1,hr1,hcap1⟩
   unfold rqVal
   dsimp only
   obtain ⟨hh,hkey,hgg,hgk,hgd,hpp,hqq⟩:=hr1
   dsimp only at hkey hgd hpp hqq hcap1
   have hn:∀ g∈gs,g.1.n=g.2.length:=fun g hg=>(hgk g hg).1
   obtain ⟨k1,k2,k3,k4⟩:=HOK.out hrs gs hkey hgd hn
   have hhl:hrs.length≤64:=by have:=congrArg List.length hkey;simp at this;have:=HQL.out;omega
   have E1:=HE0.out.step hb1
   have O1:=HO0.out.step hb1
   have hB1:=bl_step HB0.out hb1
   have hf1:=HF.out.step hB1
   obtain ⟨rb,hrb⟩:∃ rb,rb=w1.heap.size:=⟨_,rfl⟩
   obtain ⟨W3,hW3⟩:∃ W3,W3=(w1.setCell ⟨ob+1,0,none⟩ (.int .i64 0)).alloc (.cells #[.int .i64 op,.int .i64 vs,.slice HA hrs.length hc2,.int .i64 pts,.slice GA gs.length gc,.slice PA ps.length pc,.slice QA qs.length qc] 100):=⟨_,rfl⟩
   have e1:w1.cell? ⟨ob+1,0,none⟩=some (.int .i64 0):=E1.cell (i:=0) rfl
   have fe1:=E1.frozen 0
   have hl1:ob+1<w1.heap.size:=E1.lt
   have hl0:ob<w1.heap.size:=O1.lt
   have hro:w.heap.size≤ob:=by rw [HOB.out];exact Nat.le_refl _
   have hB3:Below w.heap.size w W3:=by rw [hW3];exact bl_alloc (hB1.setCell (p:=⟨ob+1,0,none⟩) (by dsimp only;omega) _) _
   have hz3:W3.heap.size=rb+1:=by rw [hW3,hrb];simp
   have hsame:∀ b o,b<w1.heap.size→W3.cell? ⟨b,o,none⟩=w1.cell? ⟨b,o,none⟩:=fun b o hb=>by
    rw [hW3,World.cell?_alloc_lt _ _ _ (by simpa using hb),cell_same e1]
   have hslS:∀ {A:Option Addr} {xs:List Value},Sl w1 w1.heap.size A xs→Sl W3 w1.heap.size A xs:=fun {A xs} h=>by
    rcases h with h | ⟨b,off,hA,hb,hcc⟩
    · exact .inl h
    · exact .inr ⟨b,off,hA,hb,fun j u hu=>(hsame b _ hb).trans (hcc j u hu)⟩
   have hf3:=HF.out.step hB3
   have Q3:Blk W3 rb 100 #[.int .i64 op,.int .i64 vs,.slice HA hrs.length hc2,.int .i64 pts,.slice GA gs.length gc,.slice PA ps.length pc,.slice QA qs.length qc]:=by
    have h:=Blk.new (w1.setCell ⟨ob+1,0,none⟩ (.int .i64 0)) 100 #[.int .i64 op,.int .i64 vs,.slice HA hrs.length hc2,.int .i64 pts,.slice GA gs.length gc,.slice PA ps.length pc,.slice QA qs.length qc]
    rw [World.size_setCell,← hrb,← hW3] at h
    exact h
   have E3:Blk W3 (ob+1) 28 #[.int .i64 0]:=by rw [hW3];exact (E1.set 0 (.int .i64 0)).alloc _
   have O3:Blk W3 ob 36 #[.slice none 0 0]:=by rw [hW3];exact (O1.far (p:=⟨ob+1,0,none⟩) (by dsimp only;omega) _).alloc _
   have hntw:∀ k,NT t w.heap.size k→NT t W3.heap.size k:=fun k hk=>⟨Nat.lt_of_lt_of_le hk.1 hB3.size,hk.2⟩
   have hnt3:∀ k,NT t W3.heap.size k→k<W3.heap.size:=fun k hk=>hk.1
   have hmem:=HNOB.out W3.heap.size (by rw [hz3];omega)
   have hrbm:NT t W3.heap.size rb:=⟨by omega,by
    rintro u rfl
    have h1:=HF.out.1.lt
    have h2:=HF.out.2.lt
    exact ⟨by omega,by omega⟩⟩
   have hw3:=HW.out.step hB3
   have hwm:NT t W3.heap.size 3:=hf3.off hw3.1.1 ⟨fun _ _ _ h=>(by cases h),fun _ h=>(by cases h)⟩
   have hreq:ReqP W3 (NT t W3.heap.size) hrs HA gs GA ps PA pc qs QA :=
    ⟨hf3.slP (hslS hh) (rg_head _),by unfold maxLen;omega,hf3.slP (hslS hgg) (rg_head _),fun g hg=>⟨hn g hg,hf3.slP (hslS (hgk g hg).2) (pt_head _),HDJ.out.2.2 (gdOf g) (by rw [← hgd];exact List.mem_map_of_mem hg)⟩,hf3.slP (hslS hpp) (pt_head _),HDJ.out.1,hcap1,hf3.slP (hslS hqq) (qu_head _),fun x hx=>(HDJ.out.2.1 x hx).1,fun x hx=>(HDJ.out.2.1 x hx).2⟩
   have HHD0:=handle_any (NT t W3.heap.size) t [] op vs pts hrs HA hc2 gs GA gc ps PA pc qs QA qc W3 hnt3 hwm hw3 (hf3.tp fun k hk=>hk.2) (by rcases HL.out with h | h;exact .inl h;exact .inr (by simp only [List.length_nil];omega)) hreq
   rw [k1,k2,List.nil_append] at HHD0
   have HHD:=hide HHD0
   have HHS:Hid (SlP W3 (NT t W3.heap.size) HA (rgCells hrs)):=hreq.hh
   obtain ⟨⟨val,cnt,recs⟩,hqa⟩:∃ a,a=qAns ⟨⟨op,vs,rs0,pts⟩,gds,ps,qs⟩:=⟨_,rfl⟩
   rw [← hqa] at k3 HHD HSD
   dsimp only at k3
   have hp0:0≤pts:=by
    by_cases h5:op=5
    · have:=HPT.out.1 h5;omega
    · have:=HPT.out.2 h5;omega
   have hp1:pts≤4096:=by
    by_cases h5:op=5
    · have:=HPT.out.1 h5;omega
    · have:=HPT.out.2 h5;omega
   have hia:=isAns_true k3 hp0
   have hresp:hrespond op vs hrs pts val cnt recs=(ansBytes op val cnt recs,0):=by unfold hrespond;rw [if_neg (by simpa using k4),if_neg (by simp [k3])]
   have HRL:Hid (recs.length≤maxLen):=by unfold maxLen;exact (by omega:recs.length≤9223372036854775807)
   have HRSP:=hide hresp
   obtain ⟨EV,hEV⟩:∃ EV,EV=qEv ⟨⟨op,vs,rs0,pts⟩,gds,ps,qs⟩:=⟨_,rfl⟩
   rw [← hEV] at HHD HSD
   obtain ⟨RB,hRB⟩:∃ RB,RB=ansBytes op val cnt recs:=⟨_,rfl⟩
   rw [← hRB] at HSD HRSP
   have c0:=Q3.cell (i:=0) rfl
   have HW3:=hide hW3;have HRB:=hide hrb;have HQ3:=hide Q3;have HE3:=hide E3;have HO3:=hide O3;have HB3:=hide hB3;have HNTW:=hide hntw;have HMEM:=hide hmem;have HRBM:=hide hrbm;have HNT3:=hide hnt3;have HHL:=hide hhl;have HZ3:=hide hz3
   clear hqa hEV hRB hresp hia k1 k2 k3 k4 HHD0 hreq hwm hw3 hrbm hmem hnt3 hntw hf3 hslS hsame hB1 hf1 hb1 hh hkey hgg hgk hgd hpp hqq hn E1 O1 E3 O3 hB3 hz3 hcap1 HOK HD HDJ
   go_wp2_with fail
   have hrbs:=HRB.out
   subst hrbs
   rw [← HW3.out]
   refine HHD.out.mono ?_
   rintro e w4 ⟨RA,rc,rfl,hk4,ht4,hs4⟩
   dsimp only at hs4
   have E4:=HE3.out.kept hk4 HMEM.out.2
   have O4:=HO3.out.kept hk4 HMEM.out.1
   have Q4:=HQ3.out.kept hk4 HRBM.out
   have e4:w4.cell? ⟨ob+1,0,none⟩=some (.int .i64 0):=E4.cell (i:=0) rfl
   have fe4:=E4.frozen 0
   have q0:=Q4.cell (i:=0) rfl
   have q1:=Q4.cell (i:=1) rfl
   have q2:=Q4.cell (i:=2) rfl
   have q3:=Q4.cell (i:=3) rfl
   have hl4:ob+1<w4.heap.size:=E4.lt
   have hl4o:ob<w4.heap.size:=O4.lt
   have hl4r:w1.heap.size<w4.heap.size:=Q4.lt
   obtain ⟨W5,hW5⟩:∃ W5,W5=(w4.setCell ⟨ob+1,0,none⟩ (.int .i64 0)).alloc (.cells #[.int .i64 val,.int .i64 cnt,.slice RA recs.length rc] 103):=⟨_,rfl⟩
   have hsame4:∀ b o,b<w4.heap.size→W5.cell? ⟨b,o,none⟩=w4.cell? ⟨b,o,none⟩:=fun b o hb=>by
    rw [hW5,World.cell?_alloc_lt _ _ _ (by simpa using hb),cell_same e4]
   have hz5:W5.heap.size=w4.heap.size+1:=by rw [hW5];simp
   have hslR:Sl W5 W5.heap.size RA (recCs recs):=by
    rcases hs4 with h | ⟨b,off,hA,hb,hcc⟩
    · exact .inl h
    · exact .inr ⟨b,off,hA,by omega,fun j u hu=>(hsame4 b _ hb).trans (hcc j u hu)⟩
   have hslH:Sl W5 W5.heap.size HA (rgCells hrs):=by
    have h4:=(HHS.out.kept hk4).sl (fun k hk=>Nat.lt_of_lt_of_le (HNT3.out k hk) hk4.size)
    rcases h4 with h | ⟨b,off,hA,hb,hcc⟩
    · exact .inl h
    · exact .inr ⟨b,off,hA,by omega,fun j u hu=>(hsame4 b _ hb).trans (hcc j u hu)⟩
   have E5:Blk W5 (ob+1) 28 #[.int .i64 0]:=by rw [hW5];exact (E4.set 0 (.int .i64 0)).alloc _
   have O5:Blk W5 ob 36 #[.slice none 0 0]:=by rw [hW5];exact (O4.far (p:=⟨ob+1,0,none⟩) (by dsimp only;omega) _).alloc _
   have hnE:¬ NT t w.heap.size (ob+1):=HNN.out.2
   have hnO:¬ NT t w.heap.size ob:=HNN.out.1
   have hP4:∀ k,NT t w.heap.size k→k<w4.heap.size:=fun k hk=>Nat.lt_of_lt_of_le (HNT3.out k (HNTW.out k hk)) hk4.size
   have hk5:KeepP (NT t w.heap.size) w W5:=by
    rw [hW5]
    refine ((KeepP.of_below HB3.out fun k hk=>hk.1).trans ((hk4.mono HNTW.out).trans (KeepP.setCell hnE _ _ _))).trans (KeepP.of_below (bA) fun k hk=>by simpa using hP4 k hk)
   have ht5:Tp W5 (NT t W3.heap.size) t EV:=by rw [hW5];exact (ht4.set HMEM.out.2 _ _).step (bA)
   have HRS0:=respond_any op vs pts hrs HA hc2 val cnt recs RA rc W5 hslH (by unfold maxLen;have:=HHL.out;omega) hslR HRL.out
   rw [HRSP.out] at HRS0
   have HRS:=hide HRS0
   have HW5:=hide hW5;have HE5:=hide E5;have HO5:=hide O5;have HK5:=hide hk5;have HT5:=hide ht5;have HZ5:=hide hz5
   clear E4 O4 Q4 hk4 ht4 hs4 hsame4 hslR hslH E5 O5 hnE hnO hP4 hk5 ht5 HRS0 hz5 e1 fe1 c0 HHD
   go_wp2_with fail
   rw [← HW5.out]
   refine HRS.out.mono ?_
   rintro e w6 ⟨v,rfl,hv6,hb6⟩
   obtain ⟨VA,vcap,rfl,hvc⟩:=own_slice hv6
   dsimp only at hvc
   have E6:=HE5.out.step hb6
   have O6:=HO5.out.step hb6
   have e6:w6.cell? ⟨ob+1,0,none⟩=some (.int .i64 0):=E6.cell (i:=0) rfl
   have fe6:=E6.frozen 0
   have o6:=O6.cell (i:=0) rfl
   have fo6:=O6.frozen 0
   have hsl6:=Sl.of_own hv6
   have hvob:byCells RB≠[]→∀ x,VA=some x→x.block≠ob∧x.block≠ob+1:=fun _ x hx=>by
    subst hx
    have h:=own_base hv6 (k:=x.block) (by rcases hv6.2 with ⟨h,_⟩ | ⟨g',cap,cur,h,_⟩ <;> cases h;rfl)
    have:=HZ5.out
    exact ⟨by omega,by omega⟩
   have HE6:=hide E6;have HO6:=hide O6;have HB6:=hide hb6;have HSL6:=hide hsl6;have HVC:=hide hvc;have HVOB:=hide hvob
   clear E6 O6 hb6 hsl6 hv6 hvc hvob q0 q1 q2 q3 e4 fe4 HRS
   go_wp2
   obtain ⟨W7,hW7⟩:∃ W7,W7=(((w6.setCell ⟨ob,0,none⟩ (.slice VA RB.length vcap)).setCell ⟨ob+1,0,none⟩ (.int .i64 0)).setCell ⟨ob,0,none⟩ (.slice VA RB.length vcap)):=⟨_,rfl⟩
   rw [← hW7]
   have E7:Blk W7 (ob+1) 28 #[.int .i64 0]:=by
    rw [hW7]
    exact (((HE6.out.far (p:=⟨ob,0,none⟩) (by dsimp only;omega) _).set 0 (.int .i64 0)).far (p:=⟨ob,0,none⟩) (by dsimp only;omega) _)
   have O7:Blk W7 ob 36 #[.slice VA RB.length vcap]:=by
    rw [hW7]
    exact ((HO6.out.set 0 (.slice VA RB.length vcap)).far (p:=⟨ob+1,0,none⟩) (by dsimp only;omega) _).set 0 (.slice VA RB.length vcap)
   refine leaves_cons (f:=57) (args:=#[.pointer (some ⟨ob+1,0,none⟩),.pointer (some ⟨ob,0,none⟩)]) (by simp) (by simp [go_sem,invoke]) ?_
   refine (deferred_any (ob+1) ob 0 _ W7 E7 O7 (by omega) (by omega) .returning).mono ?_
   rintro e u' w' ⟨rfl,rfl,h⟩
   rcases h with ⟨_,rfl⟩ | ⟨h,_⟩
   · have o7:=O7.cell (i:=0) rfl
     have hk6:∀ k,NT t w.heap.size k→k<W5.heap.size:=fun k hk=>Nat.lt_of_lt_of_le hk.1 HK5.out.size
     refine ⟨.slice VA RB.length vcap,by simp [results,Tryz.results30,go_sem,o7],?_⟩
     refine HSD.out _ _ ⟨VA,vcap,rfl,HVC.out,?_,?_,?_⟩
     · rw [hW7]
       exact (HK5.out.trans (KeepP.of_below HB6.out hk6)).trans ((KeepP.setCell HNN.out.1 _ _ _).trans ((KeepP.setCell HNN.out.2 _ _ _).trans (KeepP.setCell HNN.out.1 _ _ _)))
     · rw [hW7]
       exact ((((HT5.out.step HB6.out).set HMEM.out.1 _ _).set HMEM.out.2 _ _).set HMEM.out.1 _ _).mono HNTW.out
     · rw [hW7]
       exact (((HSL6.out.set_farP (fun h x hx=>(HVOB.out h x hx).1) _).set_farP (fun h x hx=>(HVOB.out h x hx).2) _).set_farP (fun h x hx=>(HVOB.out h x hx).1) _)
   · exact absurd rfl h
 · have hd:hdecode bs=(rqZero,hclass bs):=by unfold hdecode;rw [if_neg hc]
   have hsv:hserve bs=[hclass bs]:=by unfold hserve;rw [hd,if_pos hc]
   have hse:serveEv bs=[]:=by unfold serveEv;rw [hd,if_pos hc]
   have HSD:Hid (∀ e w',(∃ A c,e=.returned (.slice A 1 c)∧1≤c∧KeepP (NT t w.heap.size) w w'∧Tp w' (NT t w.heap.size) t []∧Sl w' w'.heap.size A (byCells [hclass bs]))→Served t bs w e w'):=fun e w' h=>by
    unfold Served
    rw [hsv,hse]
    exact h
   rw [hd] at HD
   obtain ⟨er,her⟩:∃ er,er=hclass bs:=⟨_,rfl⟩
   rw [← her] at hc hcb HSD HD
   clear hd hsv hse her hby hmax
   go_enter_defers Tryz.func30,Tryz.ntmps30
   go_wp2_with fail
   rw [← hw0,← hob]
   have HW0:=hide hw0;have HOB:=hide hob
   clear hw0 hob
   refine HD.out.mono ?_
   rintro e w1 ⟨hrs,HA,hc2,gs,GA,gc,PA,pc,QA,qc,rfl,hb1,hr1,_⟩
   unfold rqVal
   dsimp only
   have E1:=HE0.out.step hb1
   have O1:=HO0.out.step hb1
   have e1:=E1.cell (i:=0) rfl
   have fe1:=E1.frozen 0
   have o1:=O1.cell (i:=0) rfl
   have fo1:=O1.frozen 0
   have hB1:=hide (bl_step HB0.out hb1)
   have HE1:=hide E1;have HO1:=hide O1
   have hl1:ob+1<w1.heap.size:=E1.lt
   have hl0:ob<w1.heap.size:=O1.lt
   clear hb1 hr1 E1 O1 HD
   go_wp2
   obtain ⟨W5,hW5⟩:∃ W5,W5=(((w1.setCell ⟨ob+1,0,none⟩ (.int .i64 er)).setCell ⟨ob,0,none⟩ (.slice none 0 0)).alloc (.cells #[.int .i64 rqZero.h.op,.int .i64 rqZero.h.vs,.slice HA hrs.length hc2,.int .i64 rqZero.h.pts,.slice GA gs.length gc,.slice PA rqZero.ps.length pc,.slice QA rqZero.qs.length qc] 100)):=⟨_,rfl⟩
   rw [← hW5]
   have E5:Blk W5 (ob+1) 28 #[.int .i64 er]:=by
    rw [hW5]
    exact ((HE1.out.set 0 (.int .i64 er)).far (p:=⟨ob,0,none⟩) (by dsimp only;omega) _).alloc _
   have O5:Blk W5 ob 36 #[.slice none 0 0]:=by
    rw [hW5]
    exact ((HO1.out.far (p:=⟨ob+1,0,none⟩) (by dsimp only;omega) _).set 0 (.slice none 0 0)).alloc _
   have hB5:Below w.heap.size w W5:=by
    rw [hW5]
    have hr:w.heap.size≤ob:=by rw [HOB.out];exact Nat.le_refl _
    exact bl_alloc ((hB1.out.setCell (p:=⟨ob+1,0,none⟩) (by dsimp only;omega) _).setCell (p:=⟨ob,0,none⟩) hr _) _
   refine leaves_cons (f:=57) (args:=#[.pointer (some ⟨ob+1,0,none⟩),.pointer (some ⟨ob,0,none⟩)]) (by simp) (by simp [go_sem,invoke]) ?_
   refine (deferred_any (ob+1) ob er _ W5 E5 O5 hcb.1 (by omega) .returning).mono ?_
   rintro e u' w' ⟨rfl,rfl,h⟩
   rcases h with ⟨h,_⟩ | ⟨_,rfl⟩
   · exact absurd h hc
   have O6:=(O5.alloc (.cells #[.int .u8 er] 5)).set 0 (.slice (some ⟨W5.heap.size,0,none⟩) 1 1)
   have o6:=O6.cell (i:=0) rfl
   have hob5:=O5.lt
   have hr:w.heap.size≤ob:=by rw [HOB.out];exact Nat.le_refl _
   have hB6:=(bl_alloc hB5 (.cells #[.int .u8 er] 5)).setCell (p:=⟨ob,0,none⟩) hr (.slice (some ⟨W5.heap.size,0,none⟩) 1 1)
   refine ⟨.slice (some ⟨W5.heap.size,0,none⟩) 1 1,by simp [results,Tryz.results30,go_sem,o6],?_⟩
   have hnt:∀ k,NT t w.heap.size k→k<w.heap.size:=fun k hk=>hk.1
   refine HSD.out _ _ ⟨some ⟨W5.heap.size,0,none⟩,1,rfl,Nat.le_refl _,KeepP.of_below hB6 hnt,(HF.out.tp fun k hk=>hk.2).step hB6,?_⟩
   refine (Sl.set_far (sl_of_cells (Blk.new W5 5 #[.int .u8 er]) fun j u hu=>?_) (by omega) _)
   rw [← hu]
   show ([.int .u8 er]:List Value).toArray[j]?=_
   rw [List.getElem?_toArray]
   rfl
end
section
open Go.RowKit Go.Shelf
theorem gd_cg (x:Gd):gdOf (cg x)=x:=rfl
theorem gds_cg (l:List Gd):(l.map cg).map gdOf=l:=by
 rw [List.map_map]
 exact (List.map_congr_left fun x _=>gd_cg x).trans (List.map_id l)
end
section
open Go.RowKit
theorem ev_zip21:∀ (gs:List Gr) (hrs:List Rg) (i:Nat),gs.length=hrs.length→(∀ g∈gs,g.1.n=g.2.length)→(gs.zip hrs).any szBad=false→(gs.zip hrs).any kdBad=false→hrs.any wrongRg=false →
 fvEv i gs=hvEv i hrs∧fmEv i gs=hmEv i hrs∧fcheckL (gs.map (·.1))=0
 | [],[],_,_,_,_,_,_=>⟨rfl,rfl,rfl⟩
 | [],_::_,_,h,_,_,_,_=>by simp at h
 | _::_,[],_,h,_,_,_,_=>by simp at h
 | g::gs,r::hrs,i,hl,hn,hs,hk,hw=>by
   rw [List.zip_cons_cons,List.any_cons,Bool.or_eq_false_iff] at hs hk
   rw [List.any_cons,Bool.or_eq_false_iff] at hw
   obtain ⟨a1,a2,a3⟩:=ev_zip21 gs hrs (i+1) (by simpa using hl) (fun g' h=>hn g' (List.mem_cons_of_mem _ h)) hs.2 hk.2 hw.2
   have hgn:=hn g (List.mem_cons_self ..)
   have h1:(g.1.n:Int)=sizeOfReg r.v:=by have:=hs.1;unfold szBad at this;simpa using this
   have h2:g.1.v=r.v:=by
    have:=hk.1
    unfold kdBad at this
    rw [Bool.or_eq_false_iff] at this
    simpa using this.2
   have h3:sizeOfReg r.v≠0:=by have:=hw.1;unfold wrongRg at this;simpa using this
   have h4:rgVEv g.1.v g.2.length=hvEv1 r.v∧rgLEv g.1.v g.2.length=hmEv1 r.v:=by
    rw [h2,← hgn]
    unfold rgVEv hvEv1 rgLEv hmEv1
    by_cases h0:r.v=0
    · rw [if_pos h0,if_pos h0,if_pos h0,if_pos h0]
      have:g.1.n=3:=by rw [h0] at h1;have e:sizeOfReg 0=3:=rfl;omega
      rw [this]
      exact ⟨rfl,rfl⟩
    · rw [if_neg h0,if_neg h0,if_neg h0,if_neg h0]
      have hsz:3≤r.v∧r.v≤64∧sizeOfReg r.v=r.v:=by
       unfold sizeOfReg at h3 ⊢
       rw [if_neg h0] at h3 ⊢
       by_cases hb:3≤r.v∧r.v≤64
       · rw [if_pos hb];exact ⟨hb.1,hb.2,rfl⟩
       · rw [if_neg hb] at h3;exact absurd rfl h3
      have:g.1.n=r.v.toNat:=by omega
      rw [this]
      exact ⟨rfl,rfl⟩
   refine ⟨?_,?_,?_⟩
   · rw [fvEv,hvEv,a1,h4.1]
   · rw [fmEv,hmEv,a2,h4.2]
   · show fcheckL (g.1::gs.map (·.1))=0
     unfold fcheckL
     rw [h2,if_neg h3,if_pos h1.symm]
     exact a3
def hitemEv (rs:List Rg) (n:Nat):List Ev:=(List.range n).flatMap fun (i:Nat)=>(8,(i:Int),0)::hmEv 0 rs
def evB (rs:List Rg) (n:Nat):List Ev:=hvEv 0 rs++hitemEv rs n++cntEv n++pairEv (netw (lg n))
def evH21 (op vs:Int) (rs:List Rg) (pts:Int):List Ev:=if op=5 then evB rs pts.toNat else evH op vs rs
theorem rg_sizes {rs:List Rg} (h:rs.any wrongRg=false):∀ r∈rs,r.v=0∨3≤r.v∧r.v≤64:=fun r hr=>by
 have hw:wrongRg r=false:=by
  rw [List.any_eq_false] at h
  simpa using h r hr
 unfold wrongRg at hw
 have hs0:sizeOfReg r.v≠0:=by simpa using hw
 unfold sizeOfReg at hs0
 by_cases h0:r.v=0
 · exact .inl h0
 · rw [if_neg h0] at hs0
   by_cases hb:3≤r.v∧r.v≤64
   · exact .inr hb
   · rw [if_neg hb] at hs0;exact absurd rfl hs0
theorem handleEv_head {op vs pts:Int} {hrs:List Rg} {gs:List Gr} {ps:List Pt} {qs:List ((Int × Int) × Int)} (hn:∀ g∈gs,g.1.n=g.2.length) (h:(hencode op vs hrs pts gs ps qs).2=0) :
 handleEv op vs hrs pts gs ps qs=evH21 op vs hrs pts:=by
 obtain ⟨hc,hgl,hpl,hql,hsz,hkd⟩:=hencode_ok h
 obtain ⟨o1,o5,c3,c4,c5,c6,c7,_⟩:=hcheck_zero hc
 unfold handleEv evH21
 rw [if_neg (by simpa using h)]
 by_cases h5:op=5
 · rw [if_pos h5,if_pos h5]
   obtain ⟨hl1,hl64,hwr⟩:=c5 (by omega)
   obtain ⟨a1,a2,a3⟩:=ev_zip21 gs hrs 0 hgl hn hsz hkd hwr
   have hf:fcheck (gs.map (·.1))=0:=by
    unfold fcheck
    rw [if_neg (by rw [List.length_map];omega)]
    exact a3
   have hp:=c7 h5
   have hq:(qs.length:Int)=pts:=by rw [hql];unfold cntQ;rw [if_neg (by omega)]
   have hq2:pts.toNat=qs.length:=by omega
   have hb:bcheck gs qs.length=0:=by
    unfold bcheck
    rw [if_neg (by simpa using hf),if_neg (by omega)]
   unfold batchEv evB itemEv hitemEv fenceVEv fenceMEv
   rw [if_neg (by simpa using hb),if_pos hf,if_pos hf,a1,a2,hq2]
 · rw [if_neg h5,if_neg h5]
   unfold opEv evH
   by_cases h3:op=3
   · rw [if_pos h3,if_pos h3]
     have hv:=c3 h3
     have hl:(ps.length:Int)=vs+1:=by rw [h3] at hpl;exact hpl
     have e:ps.length - 1=vs.toNat:=by omega
     rw [e]
     rfl
   · rw [if_neg h3,if_neg h3]
     by_cases h4:op=4
     · rw [if_pos h4,if_pos h4]
       obtain ⟨hl1,hl64,hwr⟩:=c5 (by omega)
       obtain ⟨a1,a2,a3⟩:=ev_zip21 gs hrs 0 hgl hn hsz hkd hwr
       have hf:fcheck (gs.map (·.1))=0:=by
        unfold fcheck
        rw [if_neg (by rw [List.length_map];omega)]
        exact a3
       unfold fenceEv fenceVEv fenceMEv
       rw [if_pos hf,if_pos hf,a1,a2]
     · rw [if_neg h4,if_neg h4]
theorem serveEv_head {bs:List Int} (hby:By bs) (hc:hclass bs=0) :
 serveEv bs=evH21 (hparse bs).1.op (hparse bs).1.vs (hparse bs).1.rs (hparse bs).1.pts∧hcheck (hparse bs).1.op (hparse bs).1.vs (hparse bs).1.rs (hparse bs).1.pts=0∧((hdecode bs).1.qs.length:Int)=cntQ (hparse bs).1.op (hparse bs).1.pts:=by
 have hd:hdecode bs=(rqOf (hparse bs).1 (bs.drop (hparse bs).2.1.toNat),0):=by unfold hdecode;rw [if_pos hc]
 obtain ⟨q,hq⟩:∃ q,q=rqOf (hparse bs).1 (bs.drop (hparse bs).2.1.toNat):=⟨_,rfl⟩
 have hh:q.h=(hparse bs).1:=by rw [hq];rfl
 rw [← hq] at hd
 rw [← hh]
 obtain ⟨_,dj2,_,z⟩:=dec_small hby hd
 have hn:∀ g∈q.gs.map cg,g.1.n=g.2.length:=fun g hg=>by
  obtain ⟨x,_,rfl⟩:=List.mem_map.1 hg
  rfl
 have he:=dec_enc hby hd (hrs:=q.h.rs) (gs:=q.gs.map cg) rfl (gds_cg _) hn
 obtain ⟨_,k2,k3,k4⟩:=handle_ok (q:=q) (by rw [he]) hn (fun x hx=>(dj2 x hx).2) rfl (gds_cg _).symm rfl rfl
 have hk:=handleEv_head hn (by rw [he]:(hencode q.h.op q.h.vs q.h.rs q.h.pts (q.gs.map cg) q.ps q.qs).2=0)
 refine ⟨?_,z,?_⟩
 · unfold serveEv
   rw [hd,if_neg (by simp),← k2,hk]
 · rw [hd]
   exact (hencode_ok (by rw [he]:(hencode q.h.op q.h.vs q.h.rs q.h.pts (q.gs.map cg) q.ps q.qs).2=0)).2.2.2.1
theorem serveEv_bad {bs:List Int} (hc:hclass bs≠0):serveEv bs=[]:=by
 have hd:hdecode bs=(rqZero,hclass bs):=by unfold hdecode;rw [if_neg hc]
 unfold serveEv;rw [hd,if_pos hc]
end
section
open Go.RowKit
theorem hitemEv_count (rs:List Rg):∀ n,(hitemEv rs n).length=n*(1+(hmEv 0 rs).length)
 | 0=>by simp [hitemEv]
 | n+1=>by
   have h:=hitemEv_count rs n
   have e:hitemEv rs (n+1)=hitemEv rs n++((8,(n:Int),0)::hmEv 0 rs):=by
    unfold hitemEv
    rw [List.range_succ,List.flatMap_append]
    simp
   rw [e,List.length_append,h,List.length_cons,Nat.add_mul,Nat.one_mul]
   omega
theorem evB_len (rs:List Rg) (n:Nat):(evB rs n).length=(hvEv 0 rs).length+n*(1+(hmEv 0 rs).length)+n+(netw (lg n)).length:=by
 unfold evB
 rw [List.length_append,List.length_append,List.length_append,hitemEv_count,cntEv_len,pairEv_len]
theorem netw_124:(netw (lg 1)).length=0∧(netw (lg 2)).length=1∧(netw (lg 4)).length=6:=by decide +kernel
end
section
open Go.RowKit Go.Shelf
theorem hitemEv_snoc (rs:List Rg) (k:Nat):hitemEv rs (k+1)=hitemEv rs k++[(8,(k:Int),0)]++hmEv 0 rs:=by
 unfold hitemEv
 rw [List.range_succ,List.flatMap_append]
 simp
theorem hmEv1_64 (v:Int):(hmEv1 v).length≤64:=by
 unfold hmEv1
 split
 · simp
 · rw [locEv_length,List.length_range];unfold edgeN;split <;> omega
theorem hmEv_65:∀ (i:Nat) (l:List Rg),(hmEv i l).length≤65*l.length
 | i,[]=>by simp [hmEv]
 | i,x::l=>by
   have h:=hmEv_65 (i+1) l
   have h2:=hmEv1_64 x.v
   simp only [hmEv,List.length_cons,List.length_append]
   omega
theorem hitemEv_len {rs:List Rg} (h:rs.length≤64):∀ k,(hitemEv rs k).length≤4161*k
 | 0=>by simp [hitemEv]
 | k+1=>by
   have h1:=hitemEv_len h k
   have h2:=hmEv_65 0 rs
   rw [hitemEv_snoc,List.length_append,List.length_append,List.length_singleton]
   omega
theorem netw_100 {n:Nat} (h:n≤100):(netw (lg n)).length≤20000:=by
 have h1:∀ m:Fin 101,(netw (lg m.val)).length≤20000:=by decide +kernel
 exact h1 ⟨n,by omega⟩
end
end Go.Proofs.YtfljlmleiggmjaaGreatDoor
