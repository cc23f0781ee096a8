/- Batch BatchRun Handle ServeMath -/
import Derived.BigQuiet
import Derived.ChangeAlike
import Derived.Deep.AppendLies
import Derived.Deep.QuietTactic
import Derived.Deep.RegionLaw
import Derived.Lib.SliceRun
import Derived.Test.YthnenedoblncjaaGreatDoorPkP29
set_option maxRecDepth 1000000
set_option maxHeartbeats 8000000
namespace Go.Proofs.YthnenedoblncjaaGreatDoor
section
open Go.RowKit Go.Shelf
theorem cntEv_succ (n:Nat):cntEv (n+1)=cntEv n++[(1,(n:Int),0)]:=by simp [cntEv,List.range_succ]
theorem cntEv_length (n:Nat):(cntEv n).length=n:=by simp [cntEv]
theorem cntL_snoc (l:List (Int × Int)) (r:Int × Int):cntL (l++[r])=cntL l+r.1.toNat:=by simp [cntL]
theorem itemEv_succ (gs:List Gr) (n:Nat):itemEv gs (n+1)=itemEv gs n++((8,(n:Int),0)::fenceMEv gs):=by simp [itemEv,List.range_succ]
theorem fenceMEv_length (gs:List Gr):(fenceMEv gs).length≤4160:=by
 unfold fenceMEv
 split
 · rename_i h
   have h1:=fmEv_length 0 gs
   have h2:gs.length≤64:=by
    unfold fcheck at h
    split at h
    · omega
    · rename_i h2;rw [List.length_map] at h2;omega
   omega
 · simp
theorem itemEv_length (gs:List Gr) (n:Nat):(itemEv gs n).length≤4161*n:=by
 induction n with
 | zero=>simp [itemEv]
 | succ n ih =>
   have:=fenceMEv_length gs
   rw [itemEv_succ,List.length_append,List.length_cons];omega
theorem rc_get {w:World} {B:Nat} {A:Option Addr} {l:List (Int × Int)} {k:Nat} {r:Int × Int} (h:Sl w B A (recCs l)) (hk:l[k]?=some r) :
 ∃ b off,A=some ⟨b,off,none⟩∧w.cell? ⟨b,off+k*2,none⟩=some (.int .u64 r.1)∧w.cell? ⟨b,off+k*2+1,none⟩=some (.int .u64 r.2):=by
 obtain ⟨b,off,hA,_,h0,h1⟩:=h.rec_ hk
 exact ⟨b,off,hA,h0,h1⟩
theorem count_any (P:Nat→Prop) (t:Option (Nat × Nat)) (es:List Ev) (rs:List (Int × Int)) (hcl:∀ r∈rs,Cln r) (hn:rs.length≤4096) (A:Option Addr) (c:Nat) (w:World) (hP:∀ k,P k→k<w.heap.size) (hs:SlP w P A (recCs rs)) (ht:Tp w P t es) (hl:t=none∨es.length≤990000) :
 Calls Tryz.prog 207 #[.pointer (tapeA t),.slice A rs.length c] w fun e w'=>e=.returned (.int .u64 (cntL rs:Int))∧KeepP P w w'∧Tp w' P t (es++cntEv rs.length):=by
 have HP:=hide hP;have HS:=hide hs;have HT:=hide ht;have HCL:=hide hcl
 clear hP hs ht hcl
 go_enter Tryz.func207,Tryz.ntmps207
 go_wp2
 go_loopw [5,10] (fun u i wr=>∃ k:Nat,k≤rs.length∧i=.int .i64 k∧u=.int .u64 (cntL (rs.take k):Int)∧KeepP P w wr∧Tp wr P t (es++cntEv k))
  (fun _ i _=>rs.length - (intOf i).toNat)
 case atStart=>exact ⟨0,Nat.zero_le _,rfl,rfl,KeepP.refl _ _,by simpa [cntEv] using HT.out⟩
 case round =>
  obtain ⟨k,hk,rfl,rfl,hkp,htp⟩:=hrel
  by_cases hlt:k<rs.length
  · have hlti:(k:Int)<(rs.length:Int):=by omega
    obtain ⟨r,hr⟩:∃ r,rs[k]?=some r:=⟨_,List.getElem?_eq_getElem hlt⟩
    have hrc:=HCL.out r (List.mem_of_getElem? hr)
    have hu:=cln_u64 hrc
    have hPr:∀ j,P j→j<wr.heap.size:=fun j hj=>Nat.lt_of_lt_of_le (HP.out j hj) hkp.size
    obtain ⟨b,off,rfl,c0,c1⟩:=rc_get ((HS.out.kept hkp).sl hPr) hr
    have hbit:r.1 % 2=r.1:=by
     rcases hrc with ⟨h,_⟩ | h
     · rw [h];rfl
     · rw [h];rfl
    have HBI:=hide (fun wk=>bitw_any r.1 hu.1.1 hu.1.2 wk)
    rw [hbit] at HBI
    have hcs:=cntL_snoc (rs.take k) r
    have htk:rs.take (k+1)=rs.take k++[r]:=by rw [List.take_add_one,hr];rfl
    rw [← htk] at hcs
    have hle:=cntL_le (rs.take k) (fun x hx=>HCL.out x (List.mem_of_mem_take hx))
    rw [List.length_take] at hle
    have hr1:0≤r.1∧r.1≤1:=by
     rcases hrc with ⟨h,_⟩ | h
     · rw [h];decide
     · rw [h];decide
    have hw:IntKind.u64.wrap ((cntL (rs.take k):Int)+r.1)=(cntL (rs.take (k+1)):Int):=by rw [IntKind.wrap_u64,hcs];omega
    obtain ⟨C0,hC0⟩:∃ C0,C0=cntL (rs.take k):=⟨_,rfl⟩
    obtain ⟨C1,hC1⟩:∃ C1,C1=cntL (rs.take (k+1)):=⟨_,rfl⟩
    have HC1:=hide hC1
    rw [← hC0] at hw
    rw [← hC1] at hw
    rw [← hC0]
    obtain ⟨r1,r2⟩:=r
    dsimp only at *
    obtain ⟨xb,hxb⟩:∃ xb,xb=wr.heap.size:=⟨_,rfl⟩
    obtain ⟨w0,hw0⟩:∃ w0,w0=wr.alloc (.cells #[.int .u64 r1,.int .u64 r2] 148):=⟨_,rfl⟩
    have hb0:Below wr.heap.size wr w0:=by rw [hw0];exact bA
    have X0:Blk w0 xb 148 #[.int .u64 r1,.int .u64 r2]:=by rw [hw0,hxb];exact Blk.new _ _ _
    have hP0:∀ j,Also P xb j→j<w0.heap.size:=fun j hj=>by
     rcases hj with hj | hj
     · exact Nat.lt_of_lt_of_le (hPr j hj) hb0.size
     · subst hj;exact X0.lt
    have ht0:Tp w0 (Also P xb) t (es++cntEv k):=(htp.add (R:=Also P xb) fun j hj=>by
     rcases hj with hj | hj
     · exact .inl hj
     · exact .inr (by omega)).step hb0
    have HNO:=hide (note_w (Also P xb) t (es++cntEv k) 1 (k:Int) 0 w0 hP0 ht0 (by rcases hl with h | h;exact .inl h;exact .inr (by rw [List.length_append,cntEv_length];omega)) (by unfold I64w;omega))
    have HK0:=hide (hkp.trans (KeepP.of_below hb0 hPr))
    have HX0:=hide X0
    have HEV:=hide (cntEv_succ k)
    clear hrc hu hbit hcs htk hle hr1 hkp htp hC0 hC1 hr hPr hP0 ht0 hb0 X0
    go_wp2_with fail
    rw [← hw0,← hxb]
    clear hw0 hxb
    refine HNO.out.mono ?_
    rintro e w1 ⟨rfl,hk1,_,ht1⟩
    have X1:=HX0.out.kept hk1 (.inr rfl)
    have x0:=X1.cell (i:=0) rfl
    dsimp at x0
    have HK1:=hide (HK0.out.trans (hk1.mono fun j hj=>.inl hj))
    have HT1:=hide (ht1.mono (R:=P) fun j hj=>.inl hj)
    clear hk1 ht1 X1 c0 c1 HNO
    go_wp2_with fail
    refine (HBI.out _).mono ?_
    rintro e w2 ⟨rfl,rfl⟩
    go_wp2
    go_roundw
    case rel=>exact ⟨k+1,by omega,by go_num,by rw [← HC1.out],HK1.out,by rw [HEV.out,← List.append_assoc];exact HT1.out⟩
    case measure=>simp [intOf];omega
  · obtain rfl:k=rs.length:=by omega
    rw [List.take_of_length_le (Nat.le_refl _)]
    go_wp2
    go_ret
    exact ⟨rfl,hkp,htp⟩
theorem member_w (P:Nat→Prop) (t:Option (Nat × Nat)) (es:List Ev) (gs:List Gr) (GA:Option Addr) (gc:Nat) (p:Pt) (hp:PJ p) (w:World) (hP:∀ k,P k→k<w.heap.size) (hg0:P 8) (hs:SlP w P GA (rgCells (gs.map (·.1)))) (hgs:GsP w P gs) (hw:MW w) (ht:Tp w P t es) (hl:t=none∨es.length≤890000) :
 Calls Tryz.prog 197 #[.pointer (tapeA t),.slice GA gs.length gc,.agg #[.int .i64 p.1,.int .i64 p.2]] w fun e w'=>e=.returned (.int .u64 (msk (memOk gs p)))∧KeepP P w w'∧Tp w' P t (es++fenceMEv gs):=by
 rcases hl with rfl | hl
 · refine (fenceMember_any P none [] gs GA gc p hp w hP hg0 hs hgs hw trivial (by simp)).mono ?_
   rintro e w' ⟨h1,h2,_⟩
   exact ⟨h1,h2,trivial⟩
 · exact fenceMember_any P t es gs GA gc p hp w hP hg0 hs hgs hw ht hl
abbrev ItS (b1 b2 b3 b4 b o:Nat) (ta:Option Addr) (V:Bool) (GA QA:Option Addr) (gn gc qn qc:Nat) (q1 q2 q3:Int) (w:World):Prop :=
 w.cell? ⟨b1,0,none⟩=some (.pointer ta)∧w.cell? ⟨b2,0,none⟩=some (.int .u64 (msk V))∧w.cell? ⟨b3,0,none⟩=some (.slice GA gn gc)∧w.cell? ⟨b4,0,none⟩=some (.slice QA qn qc) ∧
  w.cell? ⟨b,o,none⟩=some (.int .i64 q1)∧w.cell? ⟨b,o+1,none⟩=some (.int .i64 q2)∧w.cell? ⟨b,o+2,none⟩=some (.int .u64 q3)
theorem ItS.keep {b1 b2 b3 b4 b o:Nat} {ta:Option Addr} {V:Bool} {GA QA:Option Addr} {gn gc qn qc:Nat} {q1 q2 q3:Int} {P:Nat→Prop} {w w':World} (h:ItS b1 b2 b3 b4 b o ta V GA QA gn gc qn qc q1 q2 q3 w) (hk:KeepP P w w') (hb:P b1∧P b2∧P b3∧P b4∧P b):ItS b1 b2 b3 b4 b o ta V GA QA gn gc qn qc q1 q2 q3 w':=by
 obtain ⟨h1,h2,h3,h4,h5,h6,h7⟩:=h
 exact ⟨(hk.cell hb.1 _).trans h1,(hk.cell hb.2.1 _).trans h2,(hk.cell hb.2.2.1 _).trans h3,(hk.cell hb.2.2.2.1 _).trans h4,(hk.cell hb.2.2.2.2 _).trans h5,(hk.cell hb.2.2.2.2 _).trans h6,(hk.cell hb.2.2.2.2 _).trans h7⟩
theorem ItS.keepB {b1 b2 b3 b4 b o:Nat} {ta:Option Addr} {V:Bool} {GA QA:Option Addr} {gn gc qn qc:Nat} {q1 q2 q3:Int} {w w':World} (h:ItS b1 b2 b3 b4 b o ta V GA QA gn gc qn qc q1 q2 q3 w) (hb:Below w.heap.size w w'):ItS b1 b2 b3 b4 b o ta V GA QA gn gc qn qc q1 q2 q3 w':=by
 have on:∀ {b o:Nat} {v:Value},w.cell? ⟨b,o,none⟩=some v→w'.cell? ⟨b,o,none⟩=some v:=fun h=>(hb.cell (p:=⟨_,_,none⟩) (cell_lt h)).trans h
 obtain ⟨h1,h2,h3,h4,h5,h6,h7⟩:=h
 exact ⟨on h1,on h2,on h3,on h4,on h5,on h6,on h7⟩
theorem msk_and3 (a b:Bool):bits BinOp.and IntKind.u64 (msk a) (msk b)=msk (a && b):=by cases a <;> cases b <;> decide
theorem item_any (P:Nat→Prop) (t:Option (Nat × Nat)) (es:List Ev) (gs:List Gr) (GA:Option Addr) (gc:Nat) (qs:List ((Int × Int) × Int)) (QA:Option Addr) (qc:Nat) (V:Bool) (b1 b2 b3 b4:Nat) (i:Nat) (q:(Int × Int) × Int) (hq:qs[i]?=some q) (hqp:PJ q.1) (hqu:U64 q.2) (w:World) (hP:∀ k,P k→k<w.heap.size) (hg0:P 8)
 (hb:P b1∧P b2∧P b3∧P b4) (h1:w.cell? ⟨b1,0,none⟩=some (.pointer (tapeA t))) (h2:w.cell? ⟨b2,0,none⟩=some (.int .u64 (msk V))) (h3:w.cell? ⟨b3,0,none⟩=some (.slice GA gs.length gc)) (h4:w.cell? ⟨b4,0,none⟩=some (.slice QA qs.length qc))
 (hs:SlP w P GA (rgCells (gs.map (·.1)))) (hgs:GsP w P gs) (hqs:SlP w P QA (quCs qs)) (hw:MW w) (ht:Tp w P t es) (hl:t=none∨es.length≤880000) :
 Calls Tryz.prog 275 #[.int .i64 (i:Int),.pointer (some ⟨b1,0,none⟩),.pointer (some ⟨b2,0,none⟩),.pointer (some ⟨b3,0,none⟩),.pointer (some ⟨b4,0,none⟩)] w fun e w' =>
  e=.returned (.agg #[.int .u64 (if (V && memOk gs q.1)=true then (1,q.2) else (0,0):Int × Int).1,.int .u64 (if (V && memOk gs q.1)=true then (1,q.2) else (0,0):Int × Int).2])∧KeepP P w w'∧Tp w' P t (es++((8,(i:Int),0)::fenceMEv gs)):=by
 obtain ⟨rb,hrb⟩:∃ rb,rb=w.heap.size:=⟨_,rfl⟩
 obtain ⟨w0,hw0⟩:∃ w0,w0=w.alloc (.cells #[.int .u64 0,.int .u64 0] 148):=⟨_,rfl⟩
 have hb0:Below w.heap.size w w0:=by rw [hw0];exact bA
 have R0:Blk w0 rb 148 #[.int .u64 0,.int .u64 0]:=by rw [hw0,hrb];exact Blk.new _ _ _
 have hP0:∀ j,Also P rb j→j<w0.heap.size:=fun j hj=>by
  rcases hj with hj | hj
  · exact Nat.lt_of_lt_of_le (hP j hj) hb0.size
  · subst hj;exact R0.lt
 have ht0:Tp w0 (Also P rb) t es:=(ht.add (R:=Also P rb) fun j hj=>by
  rcases hj with hj | hj
  · exact .inl hj
  · exact .inr (by omega)).step hb0
 have hk0:KeepP P w w0:=KeepP.of_below hb0 hP
 have hlt:i<qs.length:=(List.getElem?_eq_some_iff.1 hq).1
 have hlti:(i:Int)<(qs.length:Int):=by omega
 have hqb:∃ b off,QA=some ⟨b,off,none⟩∧P b∧w.cell? ⟨b,off+i*3,none⟩=some (.int .i64 q.1.1)∧w.cell? ⟨b,off+i*3+1,none⟩=some (.int .i64 q.1.2)∧w.cell? ⟨b,off+i*3+2,none⟩=some (.int .u64 q.2):=by
  obtain ⟨b,off,hA,_,e0,e1,e2⟩:=(hqs.sl hP).qu hq
  refine ⟨b,off,hA,?_,e0,e1,e2⟩
  rcases hqs with h | ⟨b',off',hA',hb',_⟩
  · exfalso
    have hl:=flat_length (fun q:(Int × Int) × Int=>[Value.int .i64 q.1.1,.int .i64 q.1.2,.int .u64 q.2]) 3 (fun _=>rfl) qs
    have:(quCs qs).length=0:=by rw [h];rfl
    unfold quCs at this
    omega
  · rw [hA] at hA'
    cases hA'
    exact hb'
 obtain ⟨b,off,rfl,hPb,e0,e1,e2⟩:=hqb
 have hS:ItS b1 b2 b3 b4 b (off+i*3) (tapeA t) V GA (some ⟨b,off,none⟩) gs.length gc qs.length qc q.1.1 q.1.2 q.2 w:=⟨h1,h2,h3,h4,e0,e1,e2⟩
 have hbs:P b1∧P b2∧P b3∧P b4∧P b:=⟨hb.1,hb.2.1,hb.2.2.1,hb.2.2.2,hPb⟩
 have hS0:=hS.keep hk0 hbs
 have HNO:=hide (note_w (Also P rb) t es 8 (i:Int) 0 w0 hP0 ht0 (by rcases hl with h | h;exact .inl h;exact .inr (by omega)) (by unfold I64w;omega))
 have HME:Hid (∀ wk,KeepP P w wk→(∀ j,Also P rb j→j<wk.heap.size)→Tp wk (Also P rb) t (es++[(8,(i:Int),0)])→Calls Tryz.prog 197 #[.pointer (tapeA t),.slice GA gs.length gc,.agg #[.int .i64 q.1.1,.int .i64 q.1.2]] wk fun e w'=>e=.returned (.int .u64 (msk (memOk gs q.1)))∧KeepP (Also P rb) wk w'∧Tp w' (Also P rb) t (es++[(8,(i:Int),0)]++fenceMEv gs)) :=
  hide fun wk hk h0 h5=>member_w (Also P rb) t _ gs GA gc q.1 hqp wk h0 (.inl hg0) ((hs.kept hk).mono fun j hj=>.inl hj) (fun g hg=>⟨(hgs g hg).1,((hgs g hg).2.1.kept hk).mono fun j hj=>.inl hj,(hgs g hg).2.2⟩) (hw.kept hk hg0) h5 (by rcases hl with h | h;exact .inl h;exact .inr (by rw [List.length_append];simp only [List.length_singleton];omega))
 obtain ⟨M,hM⟩:∃ M,M=memOk gs q.1:=⟨_,rfl⟩
 rw [← hM] at HME ⊢
 have hmb:=msk_bd (V && M)
 have HCL:=hide (fun wk=>clean_any (msk (V && M)) q.2 hmb.1 hmb.2 hqu.1 hqu.2 wk)
 rw [rcl_msk] at HCL
 have hand:=msk_and3 V M
 obtain ⟨R,hR⟩:∃ R:Int × Int,R=(if (V && M)=true then (1,q.2) else (0,0)):=⟨_,rfl⟩
 rw [← hR] at HCL ⊢
 obtain ⟨mv,hmv⟩:∃ mv,mv=msk (V && M):=⟨_,rfl⟩
 rw [← hmv] at HCL hand
 obtain ⟨⟨q1,q2⟩,q3⟩:=q
 obtain ⟨r1,r2⟩:=R
 dsimp only at *
 have hnP:¬ P rb:=fun h=>by have:=hP _ h;omega
 have HK0:=hide hk0;have HBS:=hide hbs;have HP0:=hide hP0;have HNP:=hide hnP;have HR0:=hide R0;have HB0:=hide hb0
 clear hR hmv hM hmb hP hg0 hb h1 h2 h3 h4 hs hgs hqs hw ht hl hb0 R0 hP0 ht0 hk0 hbs hnP hq hqp hqu hPb e0 e1 e2 hS
 go_enter Tryz.func275,Tryz.ntmps275
 have t1:=hS0.1
 rw [hw0] at t1
 go_wp2_with fail
 rw [← hw0,← hrb]
 have HRB:=hide hrb
 clear hw0 hrb
 refine HNO.out.mono ?_
 rintro e w1 ⟨rfl,hk1,_,ht1⟩
 have hS1:=hS0.keep hk1 ⟨.inl HBS.out.1,.inl HBS.out.2.1,.inl HBS.out.2.2.1,.inl HBS.out.2.2.2.1,.inl HBS.out.2.2.2.2⟩
 have hS1d:ItS b1 b2 b3 b4 b (off+i*3) (tapeA t) V GA (some ⟨b,off,none⟩) gs.length gc qs.length qc q1 q2 q3 w1.drew:=hS1
 have HR1:=hide (HR0.out.kept hk1 (.inr rfl))
 have HK1:=hide hk1
 have HKP:=hide (HK0.out.trans (hk1.mono fun j hj=>.inl hj))
 have HT1:=hide ht1
 have HM1:=hide (HME.out w1.drew (HKP.out.trans (KeepP.drew _ _)) (fun j hj=>Nat.lt_of_lt_of_le (HP0.out j hj) hk1.size) ht1.drew)
 have HKEEP:Hid (∀ wa wb,ItS b1 b2 b3 b4 b (off+i*3) (tapeA t) V GA (some ⟨b,off,none⟩) gs.length gc qs.length qc q1 q2 q3 wa→KeepP (Also P rb) wa wb→ItS b1 b2 b3 b4 b (off+i*3) (tapeA t) V GA (some ⟨b,off,none⟩) gs.length gc qs.length qc q1 q2 q3 wb) :=
  hide fun wa wb h hk=>h.keep hk ⟨.inl HBS.out.1,.inl HBS.out.2.1,.inl HBS.out.2.2.1,.inl HBS.out.2.2.2.1,.inl HBS.out.2.2.2.2⟩
 have HSETR:Hid (∀ wk,ItS b1 b2 b3 b4 b (off+i*3) (tapeA t) V GA (some ⟨b,off,none⟩) gs.length gc qs.length qc q1 q2 q3 wk→ItS b1 b2 b3 b4 b (off+i*3) (tapeA t) V GA (some ⟨b,off,none⟩) gs.length gc qs.length qc q1 q2 q3 ((wk.setCell ⟨rb,0,none⟩ (.int .u64 r1)).setCell ⟨rb,1,none⟩ (.int .u64 r2))) :=
  hide fun wk h=>h.keep ((KeepP.setCell HNP.out _ _ _).trans (KeepP.setCell HNP.out _ _ _)) HBS.out
 clear hk1 ht1 t1 hS0 HNO HME
 go_wp2_with fail
 go_region_held3 (fun w'=>w'.cell? ⟨b1,0,none⟩=some (.pointer (tapeA t))∧w'.cell? ⟨b2,0,none⟩=some (.int .u64 (msk V))∧w'.cell? ⟨b3,0,none⟩=some (.slice GA gs.length gc)∧w'.cell? ⟨b4,0,none⟩=some (.slice (some ⟨b,off,none⟩) qs.length qc) ∧
  w'.cell? ⟨b,off+i*3,none⟩=some (.int .i64 q1)∧w'.cell? ⟨b,off+i*3+1,none⟩=some (.int .i64 q2)∧w'.cell? ⟨b,off+i*3+2,none⟩=some (.int .u64 q3))
  (first | with_reducible exact hS1d | with_reducible exact hS1 | with_reducible assumption | with_reducible exact HSETR.out _ (by assumption) | exact HKEEP.out _ _ hS1d (by assumption) | exact HKEEP.out _ _ (by assumption) (by assumption) | exact ItS.keepB (by assumption) (by assumption))
  (first
    | (go_at_call 197;((with_reducible refine HM1.out.mono ?_);rintro e w2 ⟨rfl,hk2,ht2⟩))
    | (go_at_call 276;((with_reducible refine (HCL.out _).mono ?_);rintro e w3 ⟨rfl,hb3⟩;have R3:=(HR1.out.drew.kept hk2 (.inr rfl)).step hb3;have z0:=R3.cell (i:=0) rfl;have z1:=R3.cell (i:=1) rfl;have f0:=R3.frozen 0;have f1:=R3.frozen 1)))
 all_goals
  have e0:=((R3.set 0 (.int .u64 r1)).set 1 (.int .u64 r2)).cell (i:=0) rfl
  have e1:=((R3.set 0 (.int .u64 r1)).set 1 (.int .u64 r2)).cell (i:=1) rfl
  have hp2:∀ j,P j→j<w2.heap.size:=fun j hj=>Nat.lt_of_lt_of_le (HP0.out j (.inl hj)) (Nat.le_trans HK1.out.size hk2.size)
  have hkf:KeepP P w ((w3.setCell ⟨rb,0,none⟩ (.int .u64 r1)).setCell ⟨rb,1,none⟩ (.int .u64 r2)) :=
   (HKP.out.trans ((KeepP.drew _ _).trans (hk2.mono fun j hj=>.inl hj))).trans ((KeepP.of_below hb3 hp2).trans ((KeepP.setCell HNP.out _ _ _).trans (KeepP.setCell HNP.out _ _ _)))
  have htf:Tp ((w3.setCell ⟨rb,0,none⟩ (.int .u64 r1)).setCell ⟨rb,1,none⟩ (.int .u64 r2)) P t (es++((8,(i:Int),0)::fenceMEv gs)):=by
   have h:=(((ht2.step hb3).set (.inr rfl) 0 (.int .u64 r1)).set (.inr rfl) 1 (.int .u64 r2)).mono (R:=P) fun j hj=>.inl hj
   rw [List.append_assoc] at h
   exact h
  have HF:=hide (And.intro hkf htf)
  clear hkf htf hk2 ht2 hb3 R3 z0 z1 f0 f1
  go_wp2
  refine bodyPost_ret (v:=.agg #[.int .u64 r1,.int .u64 r2]) (by simp [results,Tryz.results275,go_sem,e0,e1]) rfl ⟨rfl,HF.out⟩
theorem hrecs_get {gs:List Gr} {qs:List ((Int × Int) × Int)} {k:Nat} {q:(Int × Int) × Int} (h:qs[k]?=some q):(hrecs gs qs)[k]?=some (hrec gs q):=by
 unfold hrecs;rw [List.getElem?_map,h];rfl
def rowK (gs:List Gr) (qs:List ((Int × Int) × Int)) (k:Nat):List (Int × Int):=(hrecs gs qs).take k++List.replicate (qs.length - k) (0,0)
theorem rowK_zero (gs:List Gr) (qs:List ((Int × Int) × Int)):madeCells #[.int .u64 0,.int .u64 0] (qs.length*2)=rcA (rowK gs qs 0):=by
 refine rcA_of (by rw [size_madeCells];simp [rowK]) fun k r hk=>?_
 have hz:∀ i,i<qs.length*2→(madeCells #[.int .u64 0,.int .u64 0] (qs.length*2))[i]?=some (.int .u64 0):=fun i hi=>by
  have:i % 2=0∨i % 2=1:=by omega
  unfold madeCells
  rw [Array.getElem?_map,Array.getElem?_range]
  rw [if_pos hi]
  rcases this with h | h <;> simp [h]
 unfold rowK at hk
 rw [List.take_zero,List.nil_append,Nat.sub_zero] at hk
 obtain ⟨h1,h2⟩:=List.getElem?_eq_some_iff.1 hk
 rw [List.length_replicate] at h1
 rw [List.getElem_replicate] at h2
 subst h2
 exact ⟨hz _ (by omega),hz _ (by omega)⟩
theorem rowK_step {gs:List Gr} {qs:List ((Int × Int) × Int)} {k:Nat} {r:Int × Int} (hk:k<qs.length) (h:(hrecs gs qs)[k]?=some r) :
 ((rcA (rowK gs qs k)).setIfInBounds (k*2) (.int .u64 r.1)).setIfInBounds (k*2+1) (.int .u64 r.2)=rcA (rowK gs qs (k+1)):=by
 have hl:(hrecs gs qs).length=qs.length:=by unfold hrecs;rw [List.length_map]
 have l1:∀ j,j≤qs.length→(rowK gs qs j).length=qs.length:=fun j hj=>by unfold rowK;rw [List.length_append,List.length_take,List.length_replicate,hl];omega
 have hsz:(rcA (rowK gs qs k)).size=qs.length*2:=by rw [rcA_size,l1 k (by omega)]
 refine rcA_of (by simp only [Array.size_setIfInBounds];rw [hsz,l1 (k+1) (by omega)]) fun j x hj=>?_
 simp only [Array.getElem?_setIfInBounds,Array.size_setIfInBounds,hsz]
 unfold rowK at hj
 by_cases e:j=k
 · subst e
   rw [List.getElem?_append_left (by rw [List.length_take,hl];omega),List.getElem?_take_of_lt (by omega),h] at hj
   cases hj
   exact ⟨by rw [if_neg (by omega),if_pos rfl,if_pos (by omega)],by rw [if_pos rfl,if_pos (by omega)]⟩
 · have hj2:(rowK gs qs k)[j]?=some x:=by
    unfold rowK
    by_cases hjk:j<k
    · rw [List.getElem?_append_left (by rw [List.length_take,hl];omega),List.getElem?_take_of_lt (by omega)] at hj
      rw [List.getElem?_append_left (by rw [List.length_take,hl];omega),List.getElem?_take_of_lt (by omega)]
      exact hj
    · have t1:((hrecs gs qs).take k).length=k:=by rw [List.length_take,hl];omega
      have t2:((hrecs gs qs).take (k+1)).length=k+1:=by rw [List.length_take,hl];omega
      rw [List.getElem?_append_right (by omega),t2] at hj
      rw [List.getElem?_append_right (by omega),t1]
      obtain ⟨h1,h2⟩:=List.getElem?_eq_some_iff.1 hj
      rw [List.length_replicate] at h1
      rw [List.getElem_replicate] at h2
      rw [List.getElem?_replicate,if_pos (by omega),h2]
   have h2:=rcA_get hj2
   exact ⟨by rw [if_neg (by omega),if_neg (by omega)];exact h2.1,by rw [if_neg (by omega),if_neg (by omega)];exact h2.2⟩
theorem valid_w (P:Nat→Prop) (t:Option (Nat × Nat)) (es:List Ev) (gs:List Gr) (GA:Option Addr) (gc:Nat) (w:World) (hP:∀ k,P k→k<w.heap.size) (hg0:P 8) (hs:SlP w P GA (rgCells (gs.map (·.1)))) (hgs:GsP w P gs) (hw:MW w) (ht:Tp w P t es) (hl:t=none∨es.length≤600000) :
 Calls Tryz.prog 195 #[.pointer (tapeA t),.slice GA gs.length gc] w fun e w'=>e=.returned (.int .u64 (msk (fenceOk gs)))∧KeepP P w w'∧Tp w' P t (es++fenceVEv gs):=by
 rcases hl with rfl | hl
 · refine (fenceValid_any P none [] gs GA gc w hP hg0 hs hgs hw trivial (by simp)).mono ?_
   rintro e w' ⟨h1,h2,_⟩
   exact ⟨h1,h2,trivial⟩
 · exact fenceValid_any P t es gs GA gc w hP hg0 hs hgs hw ht hl
theorem collect_any (P:Nat→Prop) (t:Option (Nat × Nat)) (es:List Ev) (gs:List Gr) (GA:Option Addr) (gc:Nat) (qs:List ((Int × Int) × Int)) (QA:Option Addr) (qc:Nat) (hqp:∀ q∈qs,PJ q.1) (hqu:∀ q∈qs,U64 q.2) (hqn:qs.length≤4096) (w:World) (hP:∀ k,P k→k<w.heap.size) (hg0:P 8)
 (hs:SlP w P GA (rgCells (gs.map (·.1)))) (hgs:GsP w P gs) (hqs:SlP w P QA (quCs qs)) (hw:MW w) (ht:Tp w P t es) (hl:t=none∨es.length+4161*qs.length≤600000) :
 Calls Tryz.prog 206 #[.pointer (tapeA t),.slice GA gs.length gc,.slice QA qs.length qc] w fun e w' =>
  ∃ b,e=.returned (.tuple #[.int .u64 (msk (fenceOk gs)),.slice (some ⟨b,0,none⟩) qs.length qs.length])∧KeepP P w w'∧Tp w' (Also P b) t (es++fenceVEv gs++itemEv gs qs.length)∧b<w'.heap.size∧Blk w' b 148 (rcA (hrecs gs qs)):=by
 obtain ⟨tb,htb⟩:∃ tb,tb=w.heap.size:=⟨_,rfl⟩
 obtain ⟨w0,hw0⟩:∃ w0,w0=((w.alloc (.cells #[.pointer (tapeA t)] 193)).alloc (.cells #[.slice GA gs.length gc] 32)).alloc (.cells #[.slice QA qs.length qc] 33):=⟨_,rfl⟩
 have hb0:Below w.heap.size w w0:=by rw [hw0];exact bl_alloc (bl_alloc (bA) _) _
 have T0:Blk w0 tb 193 #[.pointer (tapeA t)]:=by rw [hw0,htb];exact ((Blk.new _ _ _).alloc _).alloc _
 have G0:Blk w0 (tb+1) 32 #[.slice GA gs.length gc]:=by rw [hw0,htb];exact (Blk.new2 _ _ _ _).alloc _
 have Q0:Blk w0 (tb+1+1) 33 #[.slice QA qs.length qc]:=by
  rw [hw0,htb]
  have h:=Blk.new ((w.alloc (.cells #[.pointer (tapeA t)] 193)).alloc (.cells #[.slice GA gs.length gc] 32)) 33 #[.slice QA qs.length qc]
  simpa using h
 have hz0:w0.heap.size=tb+3:=by rw [hw0,htb];simp
 have hm:=more_lt hP hb0
 have hk0:KeepP P w w0:=KeepP.of_below hb0 hP
 have HV:=hide (valid_w (More P w w0) t es gs GA gc w0 hm (.inl hg0) ((hs.kept hk0).mono fun k h=>.inl h) (fun g hg=>⟨(hgs g hg).1,((hgs g hg).2.1.kept hk0).mono fun k h=>.inl h,(hgs g hg).2.2⟩) (hw.step hb0) (ht.more hb0) (by rcases hl with h | h;exact .inl h;exact .inr (by omega)))
 have HMT:Hid (More P w w0 tb):=.inr ⟨by omega,T0.lt⟩
 have HMG:Hid (More P w w0 (tb+1)):=.inr ⟨by omega,G0.lt⟩
 have HMQ:Hid (More P w w0 (tb+1+1)):=.inr ⟨by omega,Q0.lt⟩
 have HP:=hide hP;have HG:=hide hg0;have HS:=hide hs;have HGS:=hide hgs;have HQS:=hide hqs;have HW:=hide hw;have HK0:=hide hk0;have HM:=hide hm;have HQP:=hide hqp;have HQU:=hide hqu;have HZ0:=hide hz0
 have t0:=T0.cell (i:=0) rfl
 have g0:=G0.cell (i:=0) rfl
 rw [hw0] at t0 g0
 clear hP hg0 hs hgs hqs hw ht hb0 hm hk0 hqp hqu hz0
 go_enter Tryz.func206,Tryz.ntmps206
 go_wp2_with fail
 rw [← hw0,← htb]
 have HTB:=hide htb
 clear htb
 refine HV.out.mono ?_
 rintro e w1 ⟨rfl,hk1,ht1⟩
 obtain ⟨vb,hvb⟩:∃ vb,vb=w1.heap.size:=⟨_,rfl⟩
 obtain ⟨V,hV⟩:∃ V,V=fenceOk gs:=⟨_,rfl⟩
 rw [← hV]
 have hmk:=fun w=>make_recs qs.length (by omega) w
 obtain ⟨W2,hW2⟩:∃ W2,W2=(w1.alloc (.cells #[.int .u64 (msk V)] 44)).alloc (.cells (madeCells #[.int .u64 0,.int .u64 0] (qs.length*2)) 148):=⟨_,rfl⟩
 have hb2:Below w1.heap.size w1 W2:=by rw [hW2];exact bl_alloc (bA) _
 have V2:Blk W2 vb 44 #[.int .u64 (msk V)]:=by rw [hW2,hvb];exact (Blk.new _ _ _).alloc _
 have hz2:W2.heap.size=vb+2:=by rw [hW2,hvb];simp
 have O2:Blk W2 (vb+1) 148 (rcA (rowK gs qs 0)):=by
  have h:Blk W2 (vb+1) 148 (madeCells #[.int .u64 0,.int .u64 0] (qs.length*2)):=by rw [hW2,hvb];exact Blk.new2 _ _ _ _
  rw [rowK_zero] at h
  exact h
 have T2:=(T0.kept hk1 HMT.out).step hb2
 have G2:=(G0.kept hk1 HMG.out).step hb2
 have Q2:=(Q0.kept hk1 HMQ.out).step hb2
 have hvt:tb+3≤vb:=by have:=hk1.size;have:=HZ0.out;omega
 have hM2:∀ j,More P w w0 j→j<vb:=fun j hj=>by have:=HM.out j hj;have:=hk1.size;omega
 have hQ2:∀ j,Also (Also (More P w w0) vb) (vb+1) j→j<W2.heap.size:=fun j hj=>by
  rcases hj with (hj | hj) | hj
  · have:=hM2 j hj;omega
  · omega
  · omega
 have ht2:Tp W2 (Also (Also (More P w w0) vb) (vb+1)) t (es++fenceVEv gs):=(ht1.add (R:=Also (Also (More P w w0) vb) (vb+1)) fun j hj=>by
  rcases hj with (hj | hj) | hj
  · exact .inl hj
  · exact .inr (by omega)
  · exact .inr (by omega)).step hb2
 have HK02:=hide (HK0.out.trans ((hk1.mono fun j h=>.inl h).trans (KeepP.of_below hb2 fun j hj=>Nat.lt_of_lt_of_le (hM2 j (.inl hj)) (by omega))))
 have HPQ:Hid (∀ j,P j→Also (Also (More P w w0) vb) (vb+1) j):=fun j hj=>.inl (.inl (.inl hj))
 have HNO:Hid (¬ Also (More P w w0) vb (vb+1)):=fun h=>by
  rcases h with h | h
  · have:=hM2 _ h;omega
  · omega
 have HIT:Hid (∀ (k:Nat) (wr:World),k<qs.length→KeepP (Also (More P w w0) vb) W2 wr→(∀ j,Also (Also (More P w w0) vb) (vb+1) j→j<wr.heap.size)→Blk wr tb 193 #[.pointer (tapeA t)]∧Blk wr (tb+1) 32 #[.slice GA gs.length gc]∧Blk wr (tb+1+1) 33 #[.slice QA qs.length qc]∧Blk wr vb 44 #[.int .u64 (msk V)] →
  Tp wr (Also (Also (More P w w0) vb) (vb+1)) t (es++fenceVEv gs++itemEv gs k)→∃ r:Int × Int,(hrecs gs qs)[k]?=some r ∧
  Calls Tryz.prog 275 #[.int .i64 (k:Int),.pointer (some ⟨tb,0,none⟩),.pointer (some ⟨vb,0,none⟩),.pointer (some ⟨tb+1,0,none⟩),.pointer (some ⟨tb+1+1,0,none⟩)] wr fun e w' =>
   e=.returned (.agg #[.int .u64 r.1,.int .u64 r.2])∧KeepP (Also (Also (More P w w0) vb) (vb+1)) wr w'∧Tp w' (Also (Also (More P w w0) vb) (vb+1)) t (es++fenceVEv gs++itemEv gs (k+1))):=hide fun k wr hk hkr hPr ⟨B1,B3,B4,B2⟩ htr=>by
  obtain ⟨q,hq⟩:∃ q,qs[k]?=some q:=⟨_,List.getElem?_eq_getElem hk⟩
  have hkw:KeepP P w wr:=HK02.out.trans (hkr.mono fun j h=>.inl (.inl h))
  refine ⟨hrec gs q,hrecs_get hq,?_⟩
  have h:=item_any (Also (Also (More P w w0) vb) (vb+1)) t (es++fenceVEv gs++itemEv gs k) gs GA gc qs QA qc V tb vb (tb+1) (tb+1+1) k q hq (HQP.out q (List.mem_of_getElem? hq)) (HQU.out q (List.mem_of_getElem? hq)) wr hPr (HPQ.out _ HG.out)
   ⟨.inl (.inl HMT.out),.inl (.inr rfl),.inl (.inl HMG.out),.inl (.inl HMQ.out)⟩ (B1.cell rfl) (B2.cell rfl) (B3.cell rfl) (B4.cell rfl) ((HS.out.kept hkw).mono HPQ.out) (fun g hg=>⟨(HGS.out g hg).1,((HGS.out g hg).2.1.kept hkw).mono HPQ.out,(HGS.out g hg).2.2⟩) ((HQS.out.kept hkw).mono HPQ.out) (HW.out.kept hkw HG.out) htr (by
     rcases hl with h | h
     · exact .inl h
     · have h1:=itemEv_length gs k
       have h2:=fenceVEv_length gs
       have h3:4161*k≤4161*qs.length:=Nat.mul_le_mul_left _ (by omega)
       exact .inr (by rw [List.length_append,List.length_append];omega))
  refine h.mono ?_
  rintro e w' ⟨he,hk',ht'⟩
  refine ⟨?_,hk',?_⟩
  · rw [he,hV];rfl
  · rw [itemEv_succ,← List.append_assoc];exact ht'
 have q0:=((Q0.kept hk1 HMQ.out).alloc (.cells #[.int .u64 (msk V)] 44)).cell (i:=0) rfl
 have q1:=Q2.cell (i:=0) rfl
 rw [hW2] at q1
 have HT2:=hide T2;have HG2:=hide G2;have HQ2:=hide Q2;have HV2:=hide V2;have HO2:=hide O2;have HTT2:=hide ht2;have HPQ2:=hide hQ2;have HVT:=hide hvt;have HZ2:=hide hz2
 have HVV:=hide hV;have HWW2:=hide hW2
 have hmf:∀ (fn:Fn) (first cap:Array Value) (w:World),(Instr.makeFunc fn first cap).run Tryz.prog w=.ok (.func fn first cap) w:=fun _ _ _ _=>rfl
 clear T2 G2 Q2 V2 O2 ht2 hQ2 hvt hz2 hV T0 G0 Q0 hk1 ht1 hM2 hb2 t0 g0 hw0 HV
 go_wp2_with fail
 rw [← hvb,← HWW2.out]
 clear hvb q0 q1 hmk
 go_loopw [21] (fun i wr=>∃ k:Nat,k≤qs.length∧i=.int .i64 k∧(Blk wr tb 193 #[.pointer (tapeA t)]∧Blk wr (tb+1) 32 #[.slice GA gs.length gc]∧Blk wr (tb+1+1) 33 #[.slice QA qs.length qc]∧Blk wr vb 44 #[.int .u64 (msk V)])∧Blk wr (vb+1) 148 (rcA (rowK gs qs k))∧KeepP (Also (More P w w0) vb) W2 wr∧Tp wr (Also (Also (More P w w0) vb) (vb+1)) t (es++fenceVEv gs++itemEv gs k))
  (fun i _=>qs.length - (intOf i).toNat)
 case atStart=>exact ⟨0,Nat.zero_le _,rfl,⟨HT2.out,HG2.out,HQ2.out,HV2.out⟩,HO2.out,KeepP.refl _ _,by simpa [itemEv] using HTT2.out⟩
 case round =>
  obtain ⟨k,hk,rfl,hBs,hO,hkr,htr⟩:=hrel
  have hPr:∀ j,Also (Also (More P w w0) vb) (vb+1) j→j<wr.heap.size:=fun j hj=>Nat.lt_of_lt_of_le (HPQ2.out j hj) hkr.size
  by_cases hlt:k<qs.length
  · obtain ⟨r,hr,hC⟩:=HIT.out k wr hlt hkr hPr hBs htr
    have hlti:(k:Int)<(qs.length:Int):=by omega
    have HC:=hide hC
    have HST:=hide (rowK_step hlt hr)
    have hsz:(rcA (rowK gs qs k)).size=qs.length*2:=by
     have:=congrArg Array.size (rowK_step hlt hr)
     simp only [Array.size_setIfInBounds] at this
     rw [this,rcA_size]
     unfold rowK
     rw [List.length_append,List.length_take,List.length_replicate]
     have hl:(hrecs gs qs).length=qs.length:=by unfold hrecs;rw [List.length_map]
     omega
    have HSZ:=hide hsz;have HBS:=hide hBs;have HO:=hide hO;have HKR:=hide hkr
    clear hC hr hsz hBs hO hkr htr hPr
    go_wp2_with fail
    refine HC.out.mono ?_
    rintro e w3 ⟨rfl,hk3,ht3⟩
    have B3:=HO.out.kept hk3 (.inr rfl)
    have c0:=B3.cell (i:=k*2) (Array.getElem?_eq_getElem (by rw [HSZ.out];omega))
    have c1:=B3.cell (i:=k*2+1) (Array.getElem?_eq_getElem (by rw [HSZ.out];omega))
    have f0:=B3.frozen (k*2)
    have f1:=B3.frozen (k*2+1)
    have HB3:=hide B3;have HK3:=hide hk3;have HT3:=hide ht3
    have kb:∀ {g t cs},Also (More P w w0) vb g→Blk wr g t cs→Blk ((w3.setCell ⟨vb+1,k*2,none⟩ (.int .u64 r.1)).setCell ⟨vb+1,k*2+1,none⟩ (.int .u64 r.2)) g t cs:=fun {g t cs} hg hB=>by
     have hne:g≠vb+1:=fun e=>HNO.out (e ▸ hg)
     exact ((hB.kept HK3.out (.inl hg)).far (p:=⟨vb+1,k*2,none⟩) hne _).far (p:=⟨vb+1,k*2+1,none⟩) hne _
    have hbs2:Blk ((w3.setCell ⟨vb+1,k*2,none⟩ (.int .u64 r.1)).setCell ⟨vb+1,k*2+1,none⟩ (.int .u64 r.2)) tb 193 #[.pointer (tapeA t)]∧Blk ((w3.setCell ⟨vb+1,k*2,none⟩ (.int .u64 r.1)).setCell ⟨vb+1,k*2+1,none⟩ (.int .u64 r.2)) (tb+1) 32 #[.slice GA gs.length gc]∧Blk ((w3.setCell ⟨vb+1,k*2,none⟩ (.int .u64 r.1)).setCell ⟨vb+1,k*2+1,none⟩ (.int .u64 r.2)) (tb+1+1) 33 #[.slice QA qs.length qc]∧Blk ((w3.setCell ⟨vb+1,k*2,none⟩ (.int .u64 r.1)).setCell ⟨vb+1,k*2+1,none⟩ (.int .u64 r.2)) vb 44 #[.int .u64 (msk V)] :=
     ⟨kb (.inl HMT.out) HBS.out.1,kb (.inl HMG.out) HBS.out.2.1,kb (.inl HMQ.out) HBS.out.2.2.1,kb (.inr rfl) HBS.out.2.2.2⟩
    have hO2:Blk ((w3.setCell ⟨vb+1,k*2,none⟩ (.int .u64 r.1)).setCell ⟨vb+1,k*2+1,none⟩ (.int .u64 r.2)) (vb+1) 148 (rcA (rowK gs qs (k+1))):=by
     have h:=(HB3.out.set (k*2) (.int .u64 r.1)).set (k*2+1) (.int .u64 r.2)
     rw [HST.out] at h
     exact h
    have hk2:KeepP (Also (More P w w0) vb) W2 ((w3.setCell ⟨vb+1,k*2,none⟩ (.int .u64 r.1)).setCell ⟨vb+1,k*2+1,none⟩ (.int .u64 r.2)):=(HKR.out.trans (HK3.out.mono fun j hj=>.inl hj)).trans ((KeepP.setCell HNO.out _ _ _).trans (KeepP.setCell HNO.out _ _ _))
    have ht2:Tp ((w3.setCell ⟨vb+1,k*2,none⟩ (.int .u64 r.1)).setCell ⟨vb+1,k*2+1,none⟩ (.int .u64 r.2)) (Also (Also (More P w w0) vb) (vb+1)) t (es++fenceVEv gs++itemEv gs (k+1)):=(HT3.out.set (.inr rfl) _ _).set (.inr rfl) _ _
    have HREL:=hide (And.intro hbs2 (And.intro hO2 (And.intro hk2 ht2)))
    clear kb hbs2 hO2 hk2 ht2 B3 hk3 ht3
    go_wp2
    go_roundw
    case rel=>exact ⟨k+1,by omega,by go_num,HREL.out⟩
    case measure=>simp [intOf];omega
  · obtain rfl:k=qs.length:=by omega
    have v0:=hBs.2.2.2.cell (i:=0) rfl
    have hrow:rowK gs qs qs.length=hrecs gs qs:=by
     have hl:(hrecs gs qs).length=qs.length:=by unfold hrecs;rw [List.length_map]
     unfold rowK
     rw [Nat.sub_self,List.replicate_zero,List.append_nil,List.take_of_length_le (by omega)]
    rw [hrow] at hO
    have HF:=hide (show KeepP P w wr∧Tp wr (Also P (vb+1)) t (es++fenceVEv gs++itemEv gs qs.length)∧vb+1<wr.heap.size∧Blk wr (vb+1) 148 (rcA (hrecs gs qs)) from
     ⟨HK02.out.trans (hkr.mono fun j h=>.inl (.inl h)),htr.mono fun j hj=>by
       rcases hj with hj | hj
       · exact HPQ.out j hj
       · exact .inr hj,hO.lt,hO⟩)
    clear hBs hO hkr htr hPr hrow
    go_wp2
    go_ret2
    exact ⟨vb+1,by rw [← HVV.out];rfl,HF.out⟩
end
section
open Go.RowKit Go.Shelf
theorem bcheck_any (gs:List Gr) (GA:Option Addr) (gc:Nat) (n:Nat) (w:World) (hs:Sl w w.heap.size GA (rgCells (gs.map (·.1)))) :
 Calls Tryz.prog 205 #[.slice GA gs.length gc,.int .i64 (n:Int)] w fun e w'=>e=.returned (.int .i64 (bcheck gs n))∧Below w.heap.size w w':=by
 have HC0:=fcheck_any (gs.map (·.1)) GA gc w hs
 rw [List.length_map] at HC0
 have HC:=hide HC0
 obtain ⟨F,hF⟩:∃ F,F=fcheck (gs.map (·.1)):=⟨_,rfl⟩
 have HB:Hid (bcheck gs n=if F≠0 then F else if n<1∨4096<n then 6 else 0):=by rw [hF];exact rfl
 rw [← hF] at HC
 clear HC0 hF hs
 by_cases h0:F=0
 · by_cases h1:(n:Int)<1
   · have hr:bcheck gs n=6:=by rw [HB.out,if_neg (by simpa using h0),if_pos (by omega)]
     rw [hr]
     subst h0
     clear hr HB
     go_enter Tryz.func205,Tryz.ntmps205
     go_wp2_with fail
     refine HC.out.mono ?_
     rintro e w' ⟨rfl,hb⟩
     go_wp2
     go_ret
     exact ⟨rfl,hb⟩
   · by_cases h2:(4096:Int)<(n:Int)
     · have hr:bcheck gs n=6:=by rw [HB.out,if_neg (by simpa using h0),if_pos (by omega)]
       rw [hr]
       subst h0
       clear hr HB
       go_enter Tryz.func205,Tryz.ntmps205
       go_wp2_with fail
       refine HC.out.mono ?_
       rintro e w' ⟨rfl,hb⟩
       go_wp2
       go_ret
       exact ⟨rfl,hb⟩
     · have hr:bcheck gs n=0:=by rw [HB.out,if_neg (by simpa using h0),if_neg (by omega)]
       rw [hr]
       subst h0
       clear hr HB
       go_enter Tryz.func205,Tryz.ntmps205
       go_wp2_with fail
       refine HC.out.mono ?_
       rintro e w' ⟨rfl,hb⟩
       go_wp2
       go_ret
       exact ⟨rfl,hb⟩
 · have hr:bcheck gs n=F:=by rw [HB.out,if_pos h0]
   rw [hr]
   clear hr HB
   go_enter Tryz.func205,Tryz.ntmps205
   go_wp2_with fail
   refine HC.out.mono ?_
   rintro e w' ⟨rfl,hb⟩
   go_wp2
   go_ret
   exact ⟨rfl,hb⟩
theorem results_c3 {fn:Func} {p u:Tmp} {tmps:Array Value} {w:World} {g:Nat} {v0 v1 v2:Value} (h:fn.results=#[.cell p 175,.tmp u])
 (hp:tmps.getD p undef=.pointer (some ⟨g,0,none⟩)) (hb:Blk w g 175 #[v0,v1,v2]) :
 (results fn tmps).run Tryz.prog w=.ok (.tuple #[.agg #[v0,v1,v2],tmps.getD u undef]) w:=by
 have c0:=hb.cell (i:=0) rfl
 have c1:=hb.cell (i:=1) rfl
 have c2:=hb.cell (i:=2) rfl
 have hp':tmps[p]?.getD undef=.pointer (some ⟨g,0,none⟩):=by rw [← hp];simp
 simp [results,h,hp',go_sem,c0,c1,c2]
def AnsC (P:Nat→Prop) (t:Option (Nat × Nat)) (es':List Ev) (r:Ans × Int) (w:World) (e:Ending) (w':World):Prop :=
 ∃ A c,r.1.recs.length≤c∧e=.returned (.tuple #[.agg #[.int .i64 r.1.val,.int .i64 r.1.cnt,.slice A r.1.recs.length c],.int .i64 r.2])∧KeepP P w w'∧Tp w' P t es'∧Sl w' w'.heap.size A (recCs r.1.recs)
theorem Sl.set_far {w:World} {g:Nat} {xs:List Value} {b o:Nat} (h:Sl w w.heap.size (some ⟨g,0,none⟩) xs) (hne:g≠b) (u:Value):Sl (w.setCell ⟨b,o,none⟩ u) (w.setCell ⟨b,o,none⟩ u).heap.size (some ⟨g,0,none⟩) xs :=
 (h.far (p:=⟨b,o,none⟩) (fun _ x hx=>by cases hx;exact hne) u).more (by simp)
theorem runC_any (P:Nat→Prop) (t:Option (Nat × Nat)) (es:List Ev) (gs:List Gr) (GA:Option Addr) (gc:Nat) (qs:List ((Int × Int) × Int)) (QA:Option Addr) (qc:Nat) (hqp:∀ q∈qs,PJ q.1) (hqu:∀ q∈qs,U64 q.2) (w:World) (hP:∀ k,P k→k<w.heap.size) (hg0:P 8)
 (hs:SlP w P GA (rgCells (gs.map (·.1)))) (hgs:GsP w P gs) (hqs:SlP w P QA (quCs qs)) (hw:MW w) (ht:Tp w P t es) (hl:t=none∨es.length+4161*qs.length+(netw (lg qs.length)).length≤600000) :
 Calls Tryz.prog 147 #[.pointer (tapeA t),.slice GA gs.length gc,.slice QA qs.length qc] w (AnsC P t (es++batchEv gs qs.length) (hbatch gs qs) w):=by
 obtain ⟨rb,hrb⟩:∃ rb,rb=w.heap.size:=⟨_,rfl⟩
 obtain ⟨w0,hw0⟩:∃ w0,w0=w.alloc (.cells #[.int .i64 0,.int .i64 0,.slice none 0 0] 175):=⟨_,rfl⟩
 have hb0:Below w.heap.size w w0:=by rw [hw0];exact bA
 have R0:Blk w0 rb 175 #[.int .i64 0,.int .i64 0,.slice none 0 0]:=by rw [hw0,hrb];exact Blk.new _ _ _
 have hnP:¬ P rb:=fun h=>by have:=hP _ h;omega
 have HC:=hide (bcheck_any gs GA gc qs.length w0 (((hs.sl hP).below hb0).more hb0.size))
 by_cases hc:bcheck gs qs.length=0
 · have hn:1≤qs.length∧qs.length≤4096:=by
    unfold bcheck at hc
    split at hc
    · rename_i h;exact absurd hc h
    · split at hc
      · cases hc
      · omega
   have hv:hbatch gs qs=(⟨bif fenceOk gs then 1 else 0,cntL (hrecs gs qs),isort rkey (hrecs gs qs)⟩,0):=by unfold hbatch;rw [if_neg (by simpa using hc)]
   have he:batchEv gs qs.length=fenceVEv gs++itemEv gs qs.length++cntEv qs.length++pairEv (netw (lg qs.length)):=by unfold batchEv;rw [if_neg (by simpa using hc)]
   rw [hv,he]
   rw [hc] at HC
   have hrl:(hrecs gs qs).length=qs.length:=by unfold hrecs;rw [List.length_map]
   have HCLN:=hide (hrecs_cln gs hqu)
   have HP:=hide hP;have HG:=hide hg0;have HS:=hide hs;have HGS:=hide hgs;have HQS:=hide hqs;have HW:=hide hw;have HT:=hide ht;have HQP:=hide hqp;have HQU:=hide hqu;have HRL:=hide hrl;have HN:=hide hn;have HB0:=hide hb0;have HR0:=hide R0;have HNP:=hide hnP;have HL:=hide hl
   clear hv he hc hrl hP hg0 hs hgs hqs hw ht hqp hqu hn hb0 R0 hnP hl
   go_enter Tryz.func147,Tryz.ntmps147
   go_wp2_with fail
   rw [← hw0,← hrb]
   have HRB:=hide hrb
   clear hw0 hrb
   refine HC.out.mono ?_
   rintro e w1 ⟨rfl,hb1⟩
   have hB1:=bl_step HB0.out hb1
   have hrbe:=HRB.out
   have R1:=HR0.out.step hb1
   have hK1:KeepP P w w1:=KeepP.of_below hB1 HP.out
   have hP1:∀ j,Also P rb j→j<w1.heap.size:=fun j hj=>by
    rcases hj with hj | hj
    · exact Nat.lt_of_lt_of_le (HP.out j hj) hK1.size
    · subst hj;exact R1.lt
   have ht1:Tp w1 (Also P rb) t es:=(HT.out.add (R:=Also P rb) fun j hj=>by
    rcases hj with hj | hj
    · exact .inl hj
    · exact .inr (by omega)).step hB1
   have HCO:=hide (collect_any (Also P rb) t es gs GA gc qs QA qc HQP.out HQU.out HN.out.2 w1 hP1 (.inl HG.out) ((HS.out.kept hK1).mono fun j h=>.inl h) (fun g hg=>⟨(HGS.out g hg).1,((HGS.out g hg).2.1.kept hK1).mono fun j h=>.inl h,(HGS.out g hg).2.2⟩) ((HQS.out.kept hK1).mono fun j h=>.inl h) (HW.out.kept hK1 HG.out) ht1 (by rcases HL.out with h | h;exact .inl h;exact .inr (by omega)))
   have HK1:=hide hK1;have HR1:=hide R1;have HP1:=hide hP1
   clear hb1 hB1 hK1 hP1 ht1 R1 HC hrbe
   go_wp2_with fail
   refine HCO.out.mono ?_
   rintro e w2 ⟨b,rfl,hk2,ht2,hbl,hB2⟩
   have R2:=HR1.out.kept hk2 (.inr rfl)
   have hP2:∀ j,Also (Also P rb) b j→j<w2.heap.size:=fun j hj=>by
    rcases hj with hj | hj
    · exact Nat.lt_of_lt_of_le (HP1.out j hj) hk2.size
    · subst hj;exact hbl
   have hs2:SlP w2 (Also (Also P rb) b) (some ⟨b,0,none⟩) (recCs (hrecs gs qs)):=.inr ⟨b,0,rfl,.inr rfl,fun j u hu=>by
    rw [Nat.zero_add]
    exact hB2.cell (by unfold rcA;rw [List.getElem?_toArray];exact hu)⟩
   have HCT:=hide (count_any (Also (Also P rb) b) t (es++fenceVEv gs++itemEv gs qs.length) (hrecs gs qs) HCLN.out (by rw [HRL.out];exact HN.out.2) (some ⟨b,0,none⟩) qs.length w2 hP2 hs2 ht2 (by
    rcases HL.out with h | h
    · exact .inl h
    · have h1:=itemEv_length gs qs.length
      have h2:=fenceVEv_length gs
      exact .inr (by rw [List.length_append,List.length_append];omega)))
   rw [HRL.out] at HCT
   obtain ⟨V,hV⟩:∃ V,V=fenceOk gs:=⟨_,rfl⟩
   have HBI:=hide (fun wk=>bit_any V wk)
   have HVV:=hide hV
   rw [← hV]
   obtain ⟨vt,hvt⟩:∃ vt:Int,vt=(bif V then 1 else 0):=⟨_,rfl⟩
   have hvb:0≤vt∧vt≤1:=by rw [hvt];cases V <;> decide
   rw [← hvt] at HBI
   have HVT:=hide hvt
   obtain ⟨C,hC⟩:∃ C,C=cntL (hrecs gs qs):=⟨_,rfl⟩
   have hcl:=cntL_le _ HCLN.out
   rw [HRL.out,← hC] at hcl
   rw [← hC] at HCT
   have HCC:=hide hC
   have hn4:=HN.out.2
   have hw1:IntKind.i64.wrap vt=vt:=by rw [IntKind.wrap_i64];omega
   have hw2:IntKind.i64.wrap (C:Int)=(C:Int):=by rw [IntKind.wrap_i64];omega
   have HR2:=hide R2;have HK2:=hide hk2;have HP2:=hide hP2;have HS2:=hide hs2;have HB2:=hide hB2
   clear hV hvt hC hk2 ht2 hbl hB2 R2 hP2 hs2 HCO
   go_wp2_with fail
   refine (HBI.out _).mono ?_
   rintro e w2' ⟨rfl,rfl⟩
   go_wp2_with fail
   refine HCT.out.mono ?_
   rintro e w3 ⟨rfl,hk3,ht3⟩
   obtain ⟨ab,hab⟩:∃ ab,ab=w3.heap.size:=⟨_,rfl⟩
   obtain ⟨w4,hw4⟩:∃ w4,w4=w3.alloc (.cells #[.int .i64 vt,.int .i64 (C:Int),.slice none 0 0] 175):=⟨_,rfl⟩
   have hb4:Below w3.heap.size w3 w4:=by rw [hw4];exact bA
   have A4:Blk w4 ab 175 #[.int .i64 vt,.int .i64 (C:Int),.slice none 0 0]:=by rw [hw4,hab];exact Blk.new _ _ _
   have hP3:∀ j,Also (Also P rb) b j→j<w3.heap.size:=fun j hj=>Nat.lt_of_lt_of_le (HP2.out j hj) hk3.size
   have hP4:∀ j,Also (Also (Also P rb) b) ab j→j<w4.heap.size:=fun j hj=>by
    rcases hj with hj | hj
    · exact Nat.lt_of_lt_of_le (hP3 j hj) hb4.size
    · subst hj;exact A4.lt
   have hk24:KeepP (Also (Also P rb) b) w2 w4:=hk3.trans (KeepP.of_below hb4 hP3)
   have R4:=HR2.out.kept hk24 (.inl (.inr rfl))
   have ht4:Tp w4 (Also (Also (Also P rb) b) ab) t (es++fenceVEv gs++itemEv gs qs.length++cntEv qs.length):=(ht3.add (R:=Also (Also (Also P rb) b) ab) fun j hj=>by
    rcases hj with hj | hj
    · exact .inl hj
    · exact .inr (by omega)).step hb4
   have HSO:=hide (sort_any (Also (Also (Also P rb) b) ab) t (es++fenceVEv gs++itemEv gs qs.length++cntEv qs.length) (hrecs gs qs) HCLN.out (by rw [HRL.out];exact HN.out.1) (by rw [HRL.out];exact HN.out.2) (some ⟨b,0,none⟩) qs.length w4 hP4 ((HS2.out.kept hk24).mono fun j h=>.inl h) ht4 (by
    rcases HL.out with h | h
    · exact .inl h
    · have h1:=itemEv_length gs qs.length
      have h2:=fenceVEv_length gs
      have h3:=cntEv_length qs.length
      exact .inr (by rw [HRL.out,List.length_append,List.length_append,List.length_append];omega)))
   rw [HRL.out] at HSO
   have hrab:rb<ab:=by have:=HR2.out.lt;have:=hk3.size;omega
   have HA4:=hide A4;have HR4:=hide R4;have HK24:=hide hk24;have HP4:=hide hP4;have HAB:=hide hab;have HRAB:=hide hrab
   clear hk3 ht3 hb4 A4 hP3 hP4 hk24 R4 ht4 HCT hrab
   go_wp2_with fail
   rw [← hw4,← hab]
   clear hw4 hab
   refine HSO.out.mono ?_
   rintro e w5 ⟨sb,rfl,hk5,ht5,hnsb,hsl5⟩
   have A5:=HA4.out.kept hk5 (.inr rfl)
   have R5:=HR4.out.kept hk5 (.inl (.inl (.inr rfl)))
   have z0:=A5.cell (i:=0) rfl
   have z1:=A5.cell (i:=1) rfl
   have z2:=A5.cell (i:=2) rfl
   have f2:=A5.frozen 2
   have y0:=R5.cell (i:=0) rfl
   have y1:=R5.cell (i:=1) rfl
   have y2:=R5.cell (i:=2) rfl
   have g0:=R5.frozen 0
   have g1:=R5.frozen 1
   have g2:=R5.frozen 2
   have hne1:¬ rb=ab:=by have:=HRAB.out;omega
   have hne2:¬ ab=rb:=by omega
   have hns1:sb≠ab:=fun h=>hnsb (.inr h)
   have hns2:sb≠rb:=fun h=>hnsb (.inl (.inl (.inr h)))
   have HNS:=hide (And.intro hns1 hns2)
   have HRR:=hide (((R5.far (p:=⟨ab,2,none⟩) (by dsimp only;omega) (.slice (some ⟨sb,0,none⟩) qs.length qs.length)).set 0 (.int .i64 vt)).set 1 (.int .i64 (C:Int)))
   have hKK:KeepP P w w5:=(HK1.out.trans (HK2.out.mono fun j h=>.inl h)).trans ((HK24.out.mono fun j h=>.inl (.inl h)).trans (hk5.mono fun j h=>.inl (.inl (.inl h))))
   have HKK:=hide hKK;have HT5:=hide (ht5.mono (R:=P) fun j h=>.inl (.inl (.inl h)));have HSL:=hide hsl5
   have HTM:Hid (Tp w5 (Also (Also P rb) ab) t (es++fenceVEv gs++itemEv gs qs.length++cntEv qs.length++pairEv (netw (lg qs.length)))):=ht5.mono fun j h=>by
    rcases h with (h | h) | h
    · exact .inl (.inl (.inl h))
    · exact .inl (.inl (.inr h))
    · exact .inr h
   clear hk5 ht5 hnsb hsl5 A5 R5 hKK hns1 hns2
   go_wp2
   refine bodyPost_ret (results_c3 rfl rfl (HRR.out.set 2 (.slice (some ⟨sb,0,none⟩) qs.length qs.length))) rfl ?_
   have hil:(isort rkey (hrecs gs qs)).length=qs.length:=by rw [isort_length,HRL.out]
   have hab':¬ P ab:=fun h=>by have:=HP.out _ h;have:=HRAB.out;have:=HRB.out;omega
   refine ⟨some ⟨sb,0,none⟩,qs.length,Nat.le_of_eq hil,?_,?_,?_,?_⟩
   · rw [hil,← HVV.out,← HVT.out,← HCC.out];rfl
   · exact HKK.out.trans ((KeepP.setCell hab' _ _ _).trans ((KeepP.setCell HNP.out _ _ _).trans ((KeepP.setCell HNP.out _ _ _).trans (KeepP.setCell HNP.out _ _ _))))
   · have h:=(((HTM.out.set (.inr rfl) 2 (.slice (some ⟨sb,0,none⟩) qs.length qs.length)).set (.inl (.inr rfl)) 0 (.int .i64 vt)).set (.inl (.inr rfl)) 1 (.int .i64 (C:Int))).set (.inl (.inr rfl)) 2 (.slice (some ⟨sb,0,none⟩) qs.length qs.length)
     have h2:=h.mono (R:=P) fun j h=>.inl (.inl h)
     simp only [List.append_assoc] at h2 ⊢
     exact h2
   · exact (((HSL.out.set_far HNS.out.1 _).set_far HNS.out.2 _).set_far HNS.out.2 _).set_far HNS.out.2 _
 · have hv:hbatch gs qs=(ansZero,bcheck gs qs.length):=by unfold hbatch;rw [if_pos hc]
   have he:batchEv gs qs.length=[]:=by unfold batchEv;rw [if_pos hc]
   rw [hv,he,List.append_nil]
   obtain ⟨F,hF⟩:∃ F,F=bcheck gs qs.length:=⟨_,rfl⟩
   rw [← hF] at hc HC ⊢
   have HP:=hide hP;have HT:=hide ht;have HB0:=hide hb0;have HR0:=hide R0;have HNP:=hide hnP
   clear hv he hF hP hg0 hs hgs hqs hw ht hqp hqu hb0 R0 hnP hl
   go_enter Tryz.func147,Tryz.ntmps147
   go_wp2_with fail
   rw [← hw0,← hrb]
   have HRB:=hide hrb
   clear hw0 hrb
   refine HC.out.mono ?_
   rintro e w1 ⟨rfl,hb1⟩
   have R1:=HR0.out.step hb1
   have y0:=R1.cell (i:=0) rfl
   have y1:=R1.cell (i:=1) rfl
   have y2:=R1.cell (i:=2) rfl
   have g0:=R1.frozen 0
   have g1:=R1.frozen 1
   have g2:=R1.frozen 2
   have HB1:=hide (bl_step HB0.out hb1)
   have HRR:=hide (((R1.set 0 (.int .i64 0)).set 1 (.int .i64 0)).set 2 (.slice none 0 0))
   clear R1 hb1 HC
   go_wp2
   refine bodyPost_ret (results_c3 rfl rfl HRR.out) rfl ?_
   have hrl:w.heap.size≤rb:=by rw [HRB.out];exact Nat.le_refl _
   have hbf:=((HB1.out.setCell (p:=⟨rb,0,none⟩) hrl (.int .i64 0)).setCell (p:=⟨rb,1,none⟩) hrl (.int .i64 0)).setCell (p:=⟨rb,2,none⟩) hrl (.slice none 0 0)
   exact ⟨none,0,Nat.le_refl _,rfl,KeepP.of_below hbf HP.out,HT.out.step hbf,Sl.nil _ _ _⟩
end
section
open Go.RowKit Go.Shelf
structure ReqP (w:World) (P:Nat→Prop) (hrs:List Rg) (HA:Option Addr) (gs:List Gr) (GA:Option Addr) (ps:List Pt) (PA:Option Addr) (pc:Nat) (qs:List ((Int × Int) × Int)) (QA:Option Addr):Prop where
 hh:SlP w P HA (rgCells hrs)
 hn:hrs.length≤maxLen
 hg:SlP w P GA (rgCells (gs.map (·.1)))
 gk:GsP w P gs
 hp:SlP w P PA (ptCs ps)
 pj:PsJ ps
 cap:ps.length≤pc
 hq:SlP w P QA (quCs qs)
 qj:∀ q∈qs,PJ q.1
 qu:∀ q∈qs,U64 q.2
theorem ReqP.kept {w w':World} {P R:Nat→Prop} {hrs:List Rg} {HA:Option Addr} {gs:List Gr} {GA:Option Addr} {ps:List Pt} {PA:Option Addr} {pc:Nat} {qs:List ((Int × Int) × Int)} {QA:Option Addr} (h:ReqP w P hrs HA gs GA ps PA pc qs QA) (hk:KeepP P w w') (hR:∀ k,P k→R k):ReqP w' R hrs HA gs GA ps PA pc qs QA :=
 ⟨(h.hh.kept hk).mono hR,h.hn,(h.hg.kept hk).mono hR,fun g hg=>⟨(h.gk g hg).1,((h.gk g hg).2.1.kept hk).mono hR,(h.gk g hg).2.2⟩,(h.hp.kept hk).mono hR,h.pj,h.cap,(h.hq.kept hk).mono hR,h.qj,h.qu⟩
end
section
open Go.RowKit
def canG (g:Gr):Gr:=(⟨g.1.d,g.1.v,none,g.2.length,0⟩,g.2)
def cg (x:Gd):Gr:=(⟨x.1,x.2.1,none,x.2.2.length,0⟩,x.2.2)
theorem cg_gd (gs:List Gr):(gs.map gdOf).map cg=gs.map canG:=by rw [List.map_map];rfl
theorem can_fcheckL:∀ (gs:List Gr),(∀ g∈gs,g.1.n=g.2.length)→fcheckL ((gs.map canG).map (·.1))=fcheckL (gs.map (·.1))
 | [],_=>rfl
 | g::gs,h=>by
   have ih:=can_fcheckL gs fun x hx=>h x (List.mem_cons_of_mem _ hx)
   have hn:=h g (List.mem_cons_self ..)
   rw [List.map_cons,List.map_cons,List.map_cons,fcheckL,fcheckL,ih]
   show (if sizeOfReg g.1.v=0 then _ else if sizeOfReg g.1.v=(g.2.length:Int) then _ else _)=_
   rw [← hn]
theorem can_fcheck {gs:List Gr} (h:∀ g∈gs,g.1.n=g.2.length):fcheck ((gs.map canG).map (·.1))=fcheck (gs.map (·.1)):=by
 unfold fcheck
 rw [can_fcheckL gs h,List.length_map,List.length_map,List.length_map]
theorem can_fenceOk {gs:List Gr} (h:∀ g∈gs,g.1.n=g.2.length):fenceOk (gs.map canG)=fenceOk gs:=by
 unfold fenceOk fvOk
 rw [can_fcheck h,List.foldl_map]
 rfl
theorem can_memOk {gs:List Gr} (h:∀ g∈gs,g.1.n=g.2.length) (p:Pt):memOk (gs.map canG) p=memOk gs p:=by
 unfold memOk memF
 rw [can_fcheck h,List.foldl_map]
 rfl
theorem can_hrecs {gs:List Gr} (h:∀ g∈gs,g.1.n=g.2.length) (qs:List ((Int × Int) × Int)):hrecs (gs.map canG) qs=hrecs gs qs:=by
 unfold hrecs
 refine List.map_congr_left fun q _=>?_
 unfold hrec
 rw [can_fenceOk h,can_memOk h]
theorem can_bcheck {gs:List Gr} (h:∀ g∈gs,g.1.n=g.2.length) (n:Nat):bcheck (gs.map canG) n=bcheck gs n:=by unfold bcheck;rw [can_fcheck h]
theorem can_hbatch {gs:List Gr} (h:∀ g∈gs,g.1.n=g.2.length) (qs:List ((Int × Int) × Int)):hbatch (gs.map canG) qs=hbatch gs qs:=by unfold hbatch;rw [can_bcheck h,can_fenceOk h,can_hrecs h]
end
end Go.Proofs.YthnenedoblncjaaGreatDoor
