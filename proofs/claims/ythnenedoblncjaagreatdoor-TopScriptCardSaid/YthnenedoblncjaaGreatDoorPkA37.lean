/- Batch BatchRun RefSort13 RefSortP RefSortW -/
import Derived.BigQuiet
import Derived.Deep.QuietTactic
import Derived.Deep.RegionHeld3
import Derived.Laws.OwnMore
import Derived.Lib.SliceRun
import Derived.Test.YthnenedoblncjaaGreatDoorPkA34
set_option maxRecDepth 1000000
set_option maxHeartbeats 8000000
namespace Go.Proofs.YthnenedoblncjaaGreatDoor
open Go.Proofs.Tryz
section
open Go.RowKit Go.Shelf
theorem BK(n:Nat):UY (n+1)=UY n++[(1,(n:Int),0)]:=by simp [UY,List.range_succ]
theorem PO(n:Nat):(UY n).length=n:=by simp [UY]
theorem JA(l:List (Int × Int))(r:Int × Int):XQ (l++[r])=XQ l+r.1.toNat:=by simp [XQ]
theorem Ob(gs:List Gr)(n:Nat):XV gs (n+1)=XV gs n++((8,(n:Int),0)::YD gs):=by simp [XV,List.range_succ]
theorem Nn(gs:List Gr):(YD gs).length<=4160:=by
 unfold YD;split
 · rename_i h
   have h1:=Sg 0 gs;have h2:gs.length<=64:=by
    unfold Zi at h;split at h
    · omega
    · rename_i h2;rw [List.length_map] at h2;omega
   omega
 · simp
theorem Uz(gs:List Gr)(n:Nat):(XV gs n).length<=4161*n:=by
 induction n with
 | zero=>simp [XV]
 | succ n ih =>
   have:=Nn gs;rw [Ob,List.length_append,List.length_cons];omega
theorem iK{w:World}{B:Nat}{A:Option Addr}{l:List (Int × Int)}{k:Nat}{r:Int × Int}(h:Sl w B A (ZA l))(hk:l[k]?=some r):
 ∃ b off,A=some ⟨b,off,none⟩/\w.cell? ⟨b,off+k*2,none⟩=some (.int .u64 r.1)/\w.cell? ⟨b,off+k*2+1,none⟩=some (.int .u64 r.2):=by
 obtain ⟨b,off,hA,_,h0,h1⟩:=h.Gl hk;exact ⟨b,off,hA,h0,h1⟩
theorem xZ(P:Nat->Prop)(t:Option (Nat × Nat))(es:List Ev)(rs:List (Int × Int))(hcl:∀ r∈rs,Qw r)(hn:rs.length<=4096)(A:Option Addr)(c:Nat)(w:World)(hP:∀ k,P k->k<w.heap.size)(hs:UU w P A (ZA rs))(ht:Tp w P t es)(hl:t=none\/es.length<=990000):
 Calls prog 207 #[.pointer (Zz t),.slice A rs.length c] w fun e w'=>e=.returned (.int .u64 (XQ rs:Int))/\Z8 P w w'/\Tp w' P t (es++UY rs.length):=by
 have HP:=hide hP;have HS:=hide hs;have HT:=hide ht;have OE:=hide hcl;clear hP hs ht hcl;go_enter func207,ntmps207;go_wp2
 go_loopw [5,10] (fun u i wr=>∃ k:Nat,k<=rs.length/\i=.int .i64 k/\u=.int .u64 (XQ (rs.take k):Int)/\Z8 P w wr/\Tp wr P t (es++UY k))
  (fun _ i _=>rs.length - (intOf i).toNat)
 case atStart=>exact ⟨0,Nat.zero_le _,rfl,rfl,Z8.refl _ _,by simpa [UY] using HT.out⟩
 case round =>
  obtain ⟨k,hk,rfl,rfl,hkp,htp⟩:=hrel
  by_cases hlt:k<rs.length
  · have Sv:(k:Int)<(rs.length:Int):=(by omega);obtain ⟨r,hr⟩:∃ r,rs[k]?=some r:=⟨_,List.getElem?_eq_getElem hlt⟩;have hrc:=OE.out r (List.mem_of_getElem? hr);have hu:=Ho hrc;have Tf:∀ j,P j->j<wr.heap.size:=fun j hj=>Nat.lt_of_lt_of_le (HP.out j hj) hkp.size;obtain ⟨b,off,rfl,c0,c1⟩:=iK ((HS.out.kept hkp).sl Tf) hr;have hbit:r.1 % 2=r.1:=by
     rcases hrc with ⟨h,_⟩|h
     · rw [h];rfl
     · rw [h];rfl
    have xE:=hide (fun wk=>EM r.1 hu.1.1 hu.1.2 wk);rw [hbit] at xE;have hcs:=JA (rs.take k) r;have htk:rs.take (k+1)=rs.take k++[r]:=(by rw [List.take_add_one,hr];rfl);rw [<- htk] at hcs;have hle:=RF (rs.take k) (fun x hx=>OE.out x (List.mem_of_mem_take hx));rw [List.length_take] at hle;have hr1:0<=r.1/\r.1<=1:=by
     rcases hrc with ⟨h,_⟩|h
     · rw [h];decide
     · rw [h];decide
    have hw:IntKind.u64.wrap ((XQ (rs.take k):Int)+r.1)=(XQ (rs.take (k+1)):Int):=(by rw [IntKind.wrap_u64,hcs];omega);obtain ⟨C0,hC0⟩:=eE (XQ (rs.take k));obtain ⟨C1,bQ⟩:=eE (XQ (rs.take (k+1)));have Ru:=hide bQ;rw [<- hC0] at hw;rw [<- bQ] at hw;rw [<- hC0];obtain ⟨r1,r2⟩:=r;dsimp only at *;obtain ⟨xb,hxb⟩:=eE wr.heap.size;obtain ⟨w0,hw0⟩:=eE (wr.alloc (.cells #[.int .u64 r1,.int .u64 r2] 148));have hb0:=bE hw0;have X0:Z6 w0 xb 148 #[.int .u64 r1,.int .u64 r2]:=by rw [hw0,hxb];exact Z6.new _ _ _
    have Pw:∀ j,Also P xb j->j<w0.heap.size:=fun j hj=>by
     rcases hj with hj|hj
     · exact Nat.lt_of_lt_of_le (Tf j hj) hb0.size
     · subst hj;exact X0.lt
    have ht0:Tp w0 (Also P xb) t (es++UY k):=(htp.add (R:=Also P xb) fun j hj=>by
     rcases hj with hj|hj
     · exact .inl hj
     · exact .inr (by omega)).step hb0
    have Td:=hide (Dl (Also P xb) t (es++UY k) 1 (k:Int) 0 w0 Pw ht0 (by rcases hl with h|h;exact .inl h;exact .inr (by rw [List.length_append,PO];omega)) (by unfold QB;omega));have NI:=hide (hkp.trans (Z8.of_below hb0 Tf));have HX0:=hide X0;have Qx:=hide (BK k);clear hrc hu hbit hcs htk hle hr1 hkp htp hC0 bQ hr Tf Pw ht0 hb0 X0;go_wp2_with fail;rw [<- hw0,<- hxb];clear hw0 hxb;refine Td.out.mono ?_;rintro e w1 ⟨rfl,hk1,_,ht1⟩;have X1:=HX0.out.kept hk1 (.inr rfl);have x0:=X1.q0 rfl;dsimp at x0;have Bl:=hide (NI.out.trans (hk1.mono fun j hj=>.inl hj));have HT1:=hide (ht1.mono (R:=P) fun j hj=>.inl hj);clear hk1 ht1 X1 c0 c1 Td;go_wp2_with fail;refine (xE.out _).mono ?_;rintro e w2 ⟨rfl,rfl⟩;go_wp2;go_roundw
    case rel=>exact ⟨k+1,by omega,by go_num,by rw [<- Ru.out],Bl.out,by rw [Qx.out,<- List.append_assoc];exact HT1.out⟩
    case measure=>simp [intOf];omega
  · obtain rfl:k=rs.length:=(by omega);rw [List.take_of_length_le (Nat.le_refl _)];go_wp2;go_ret;exact ⟨rfl,hkp,htp⟩
theorem vo(P:Nat->Prop)(t:Option (Nat × Nat))(es:List Ev)(gs:List Gr)(GA:Option Addr)(gc:Nat)(p:Pt)(hp:PJ p)(w:World)(hP:∀ k,P k->k<w.heap.size)(hg0:P 8)(hs:UU w P GA (rgCells (gs.map (·.1))))(hgs:zW w P gs)(hw:MW w)(ht:Tp w P t es)(hl:t=none\/es.length<=890000):
 Calls prog 197 #[.pointer (Zz t),.slice GA gs.length gc,.agg #[.int .i64 p.1,.int .i64 p.2]] w fun e w'=>e=.returned (.int .u64 (ZE (XZ gs p)))/\Z8 P w w'/\Tp w' P t (es++YD gs):=by
 rcases hl with rfl|hl
 · refine (Vm P none [] gs GA gc p hp w hP hg0 hs hgs hw trivial (by simp)).mono ?_;rintro e w' ⟨h1,h2,_⟩;exact ⟨h1,h2,trivial⟩
 · exact Vm P t es gs GA gc p hp w hP hg0 hs hgs hw ht hl
abbrev xM(b1 b2 b3 b4 b o:Nat)(ta:Option Addr)(V:Bool)(GA QA:Option Addr)(gn gc qn qc:Nat)(q1 q2 q3:Int)(w:World):Prop :=
 w.cell? ⟨b1,0,none⟩=some (.pointer ta)/\w.cell? ⟨b2,0,none⟩=some (.int .u64 (ZE V))/\w.cell? ⟨b3,0,none⟩=some (.slice GA gn gc)/\w.cell? ⟨b4,0,none⟩=some (.slice QA qn qc) /\
  w.cell? ⟨b,o,none⟩=some (.int .i64 q1)/\w.cell? ⟨b,o+1,none⟩=some (.int .i64 q2)/\w.cell? ⟨b,o+2,none⟩=some (.int .u64 q3)
theorem xM.keep{b1 b2 b3 b4 b o:Nat}{ta:Option Addr}{V:Bool}{GA QA:Option Addr}{gn gc qn qc:Nat}{q1 q2 q3:Int}{P:Nat->Prop}{w w':World}(h:xM b1 b2 b3 b4 b o ta V GA QA gn gc qn qc q1 q2 q3 w)(hk:Z8 P w w')(hb:P b1/\P b2/\P b3/\P b4/\P b):xM b1 b2 b3 b4 b o ta V GA QA gn gc qn qc q1 q2 q3 w':=by
 obtain ⟨h1,h2,h3,h4,h5,h6,h7⟩:=h;exact ⟨(hk.cell hb.1 _).trans h1,(hk.cell hb.2.1 _).trans h2,(hk.cell hb.2.2.1 _).trans h3,(hk.cell hb.2.2.2.1 _).trans h4,(hk.cell hb.2.2.2.2 _).trans h5,(hk.cell hb.2.2.2.2 _).trans h6,(hk.cell hb.2.2.2.2 _).trans h7⟩
theorem xM.zuz{b1 b2 b3 b4 b o:Nat}{ta:Option Addr}{V:Bool}{GA QA:Option Addr}{gn gc qn qc:Nat}{q1 q2 q3:Int}{w w':World}(h:xM b1 b2 b3 b4 b o ta V GA QA gn gc qn qc q1 q2 q3 w)(hb:Below w.heap.size w w'):xM b1 b2 b3 b4 b o ta V GA QA gn gc qn qc q1 q2 q3 w':=by
 have on:∀ {b o:Nat} {v:Value},w.cell? ⟨b,o,none⟩=some v->w'.cell? ⟨b,o,none⟩=some v:=fun h=>(hb.cell (p:=⟨_,_,none⟩) (Zv h)).trans h;obtain ⟨h1,h2,h3,h4,h5,h6,h7⟩:=h;exact ⟨on h1,on h2,on h3,on h4,on h5,on h6,on h7⟩
theorem vv(a b:Bool):bits BinOp.and IntKind.u64 (ZE a) (ZE b)=ZE (a && b):=by cases a <;> cases b <;> decide
theorem uN (P:Nat->Prop) (t:Option (Nat × Nat)) (es:List Ev) (gs:List Gr) (GA:Option Addr) (gc:Nat) (qs:List ((Int × Int) × Int)) (QA:Option Addr) (qc:Nat) (V:Bool) (b1 b2 b3 b4:Nat) (i:Nat) (q:(Int × Int) × Int) (hq:qs[i]?=some q) (tY:PJ q.1) (Ro:Vo q.2) (w:World) (hP:∀ k,P k->k<w.heap.size) (hg0:P 8)
 (hb:P b1/\P b2/\P b3/\P b4) (h1:w.cell? ⟨b1,0,none⟩=some (.pointer (Zz t))) (h2:w.cell? ⟨b2,0,none⟩=some (.int .u64 (ZE V))) (h3:w.cell? ⟨b3,0,none⟩=some (.slice GA gs.length gc)) (h4:w.cell? ⟨b4,0,none⟩=some (.slice QA qs.length qc))
 (hs:UU w P GA (rgCells (gs.map (·.1)))) (hgs:zW w P gs) (RL:UU w P QA (Wt qs)) (hw:MW w) (ht:Tp w P t es) (hl:t=none\/es.length<=880000) :
 Calls prog 275 #[.int .i64 (i:Int),.pointer (some ⟨b1,0,none⟩),.pointer (some ⟨b2,0,none⟩),.pointer (some ⟨b3,0,none⟩),.pointer (some ⟨b4,0,none⟩)] w fun e w' =>
  e=.returned (.agg #[.int .u64 (if (V && XZ gs q.1)=true then (1,q.2) else (0,0):Int × Int).1,.int .u64 (if (V && XZ gs q.1)=true then (1,q.2) else (0,0):Int × Int).2])/\Z8 P w w'/\Tp w' P t (es++((8,(i:Int),0)::YD gs)):=by
 obtain ⟨rb,hrb⟩:=eE w.heap.size;obtain ⟨w0,hw0⟩:=eE (w.alloc (.cells #[.int .u64 0,.int .u64 0] 148));have hb0:=bE hw0;have R0:Z6 w0 rb 148 #[.int .u64 0,.int .u64 0]:=by rw [hw0,hrb];exact Z6.new _ _ _
 have Pw:∀ j,Also P rb j->j<w0.heap.size:=fun j hj=>by
  rcases hj with hj|hj
  · exact Nat.lt_of_lt_of_le (hP j hj) hb0.size
  · subst hj;exact R0.lt
 have ht0:Tp w0 (Also P rb) t es:=(ht.add (R:=Also P rb) fun j hj=>by
  rcases hj with hj|hj
  · exact .inl hj
  · exact .inr (by omega)).step hb0
 have hk0:Z8 P w w0:=Z8.of_below hb0 hP;have hlt:i<qs.length:=(List.getElem?_eq_some_iff.1 hq).1;have Sv:(i:Int)<(qs.length:Int):=by omega
 have CK:∃ b off,QA=some ⟨b,off,none⟩/\P b/\w.cell? ⟨b,off+i*3,none⟩=some (.int .i64 q.1.1)/\w.cell? ⟨b,off+i*3+1,none⟩=some (.int .i64 q.1.2)/\w.cell? ⟨b,off+i*3+2,none⟩=some (.int .u64 q.2):=by
  obtain ⟨b,off,hA,_,e0,e1,e2⟩:=(RL.sl hP).qu hq;refine ⟨b,off,hA,?_,e0,e1,e2⟩;rcases RL with h|⟨b',off',hA',hb',_⟩
  · exfalso
    have hl:=YE (fun q:(Int × Int) × Int=>[Value.int .i64 q.1.1,.int .i64 q.1.2,.int .u64 q.2]) 3 (fun _=>rfl) qs;have:(Wt qs).length=0:=(by rw [h];rfl);unfold Wt at this;omega
  · rw [hA] at hA';cases hA';exact hb'
 obtain ⟨b,off,rfl,hPb,e0,e1,e2⟩:=CK;have hS:xM b1 b2 b3 b4 b (off+i*3) (Zz t) V GA (some ⟨b,off,none⟩) gs.length gc qs.length qc q.1.1 q.1.2 q.2 w:=⟨h1,h2,h3,h4,e0,e1,e2⟩;have hbs:P b1/\P b2/\P b3/\P b4/\P b:=⟨hb.1,hb.2.1,hb.2.2.1,hb.2.2.2,hPb⟩;have hS0:=hS.keep hk0 hbs;have Td:=hide (Dl (Also P rb) t es 8 (i:Int) 0 w0 Pw ht0 (by rcases hl with h|h;exact .inl h;exact .inr (by omega)) (by unfold QB;omega))
 have HME:Hid (∀ wk,Z8 P w wk->(∀ j,Also P rb j->j<wk.heap.size)->Tp wk (Also P rb) t (es++[(8,(i:Int),0)])->Calls prog 197 #[.pointer (Zz t),.slice GA gs.length gc,.agg #[.int .i64 q.1.1,.int .i64 q.1.2]] wk fun e w'=>e=.returned (.int .u64 (ZE (XZ gs q.1)))/\Z8 (Also P rb) wk w'/\Tp w' (Also P rb) t (es++[(8,(i:Int),0)]++YD gs)) :=
  hide fun wk hk h0 h5=>vo (Also P rb) t _ gs GA gc q.1 tY wk h0 (.inl hg0) ((hs.kept hk).mono fun j hj=>.inl hj) (fun g hg=>⟨(hgs g hg).1,((hgs g hg).2.1.kept hk).mono fun j hj=>.inl hj,(hgs g hg).2.2⟩) (hw.kept hk hg0) h5 (by rcases hl with h|h;exact .inl h;exact .inr (by rw [List.length_append];simp only [List.length_singleton];omega))
 obtain ⟨M,hM⟩:=eE (XZ gs q.1);rw [<- hM] at HME ⊢;have hmb:=VJ (V && M);have OE:=hide (fun wk=>Rz (ZE (V && M)) q.2 hmb.1 hmb.2 Ro.1 Ro.2 wk);rw [oV] at OE;have hand:=vv V M;obtain ⟨R,hR⟩:∃ R:Int × Int,R=(if (V && M)=true then (1,q.2) else (0,0)):=⟨_,rfl⟩;rw [<- hR] at OE ⊢;obtain ⟨mv,hmv⟩:=eE (ZE (V && M));rw [<- hmv] at OE hand;obtain ⟨⟨q1,q2⟩,q3⟩:=q;obtain ⟨r1,r2⟩:=R;dsimp only at *;have Nu:¬ P rb:=fun h=>by have:=hP _ h;omega
 have NI:=hide hk0;have Ju:=hide hbs;have HP0:=hide Pw;have Tq:=hide Nu;have lu:=hide R0;have HB0:=hide hb0;clear hR hmv hM hmb hP hg0 hb h1 h2 h3 h4 hs hgs RL hw ht hl hb0 R0 Pw ht0 hk0 hbs Nu hq tY Ro hPb e0 e1 e2 hS;go_enter func275,ntmps275;have t1:=hS0.1;rw [hw0] at t1;go_wp2_with fail;rw [<- hw0,<- hrb];have Eo:=hide hrb;clear hw0 hrb;refine Td.out.mono ?_;rintro e w1 ⟨rfl,hk1,_,ht1⟩;have hS1:=hS0.keep hk1 ⟨.inl Ju.out.1,.inl Ju.out.2.1,.inl Ju.out.2.2.1,.inl Ju.out.2.2.2.1,.inl Ju.out.2.2.2.2⟩;have zso:xM b1 b2 b3 b4 b (off+i*3) (Zz t) V GA (some ⟨b,off,none⟩) gs.length gc qs.length qc q1 q2 q3 w1.drew:=hS1;have HR1:=hide (lu.out.kept hk1 (.inr rfl));have Bl:=hide hk1;have HKP:=hide (NI.out.trans (hk1.mono fun j hj=>.inl hj));have HT1:=hide ht1;have kW:=hide (HME.out w1.drew (HKP.out.trans (Z8.drew _ _)) (fun j hj=>Nat.lt_of_lt_of_le (HP0.out j hj) hk1.size) ht1.drew)
 have jD:Hid (∀ wa wb,xM b1 b2 b3 b4 b (off+i*3) (Zz t) V GA (some ⟨b,off,none⟩) gs.length gc qs.length qc q1 q2 q3 wa->Z8 (Also P rb) wa wb->xM b1 b2 b3 b4 b (off+i*3) (Zz t) V GA (some ⟨b,off,none⟩) gs.length gc qs.length qc q1 q2 q3 wb) :=
  hide fun wa wb h hk=>h.keep hk ⟨.inl Ju.out.1,.inl Ju.out.2.1,.inl Ju.out.2.2.1,.inl Ju.out.2.2.2.1,.inl Ju.out.2.2.2.2⟩
 have zsb:Hid (∀ wk,xM b1 b2 b3 b4 b (off+i*3) (Zz t) V GA (some ⟨b,off,none⟩) gs.length gc qs.length qc q1 q2 q3 wk->xM b1 b2 b3 b4 b (off+i*3) (Zz t) V GA (some ⟨b,off,none⟩) gs.length gc qs.length qc q1 q2 q3 ((wk.setCell ⟨rb,0,none⟩ (.int .u64 r1)).setCell ⟨rb,1,none⟩ (.int .u64 r2))) :=
  hide fun wk h=>h.keep ((Z8.setCell Tq.out _ _ _).trans (Z8.setCell Tq.out _ _ _)) Ju.out
 clear hk1 ht1 t1 hS0 Td HME;go_wp2_with fail
 go_region_held3 (fun w'=>w'.cell? ⟨b1,0,none⟩=some (.pointer (Zz t))/\w'.cell? ⟨b2,0,none⟩=some (.int .u64 (ZE V))/\w'.cell? ⟨b3,0,none⟩=some (.slice GA gs.length gc)/\w'.cell? ⟨b4,0,none⟩=some (.slice (some ⟨b,off,none⟩) qs.length qc) /\
  w'.cell? ⟨b,off+i*3,none⟩=some (.int .i64 q1)/\w'.cell? ⟨b,off+i*3+1,none⟩=some (.int .i64 q2)/\w'.cell? ⟨b,off+i*3+2,none⟩=some (.int .u64 q3))
  (first|with_reducible exact zso|with_reducible exact hS1|with_reducible assumption|with_reducible exact zsb.out _ (by assumption)|exact jD.out _ _ zso (by assumption)|exact jD.out _ _ (by assumption) (by assumption)|exact xM.zuz (by assumption) (by assumption))
  (first
    | (go_at_call 197;((with_reducible refine kW.out.mono ?_);rintro e w2 ⟨rfl,hk2,ht2⟩))
    | (go_at_call 276;((with_reducible refine (OE.out _).mono ?_);rintro e w3 ⟨rfl,hb3⟩;have R3:=(HR1.out.drew.kept hk2 (.inr rfl)).step hb3;have z0:=R3.q0 rfl;have z1:=R3.q1 rfl;have f0:=R3.frozen 0;have f1:=R3.frozen 1)))
 all_goals
  have e0:=((R3.set 0 (.int .u64 r1)).set 1 (.int .u64 r2)).q0 rfl;have e1:=((R3.set 0 (.int .u64 r1)).set 1 (.int .u64 r2)).q1 rfl;have hp2:∀ j,P j->j<w2.heap.size:=fun j hj=>Nat.lt_of_lt_of_le (HP0.out j (.inl hj)) (Nat.le_trans Bl.out.size hk2.size)
  have hkf:Z8 P w ((w3.setCell ⟨rb,0,none⟩ (.int .u64 r1)).setCell ⟨rb,1,none⟩ (.int .u64 r2)) :=
   (HKP.out.trans ((Z8.drew _ _).trans (hk2.mono fun j hj=>.inl hj))).trans ((Z8.of_below hb3 hp2).trans ((Z8.setCell Tq.out _ _ _).trans (Z8.setCell Tq.out _ _ _)))
  have htf:Tp ((w3.setCell ⟨rb,0,none⟩ (.int .u64 r1)).setCell ⟨rb,1,none⟩ (.int .u64 r2)) P t (es++((8,(i:Int),0)::YD gs)):=by
   have h:=(((ht2.step hb3).set (.inr rfl) 0 (.int .u64 r1)).set (.inr rfl) 1 (.int .u64 r2)).mono (R:=P) fun j hj=>.inl hj;rw [List.append_assoc] at h;exact h
  have HF:=hide (And.intro hkf htf);clear hkf htf hk2 ht2 hb3 R3 z0 z1 f0 f1;go_wp2;refine bodyPost_ret (v:=.agg #[.int .u64 r1,.int .u64 r2]) (by simp [results,Tryz.results275,go_sem,e0,e1]) rfl ⟨rfl,HF.out⟩
theorem yN{gs:List Gr}{qs:List ((Int × Int) × Int)}{k:Nat}{q:(Int × Int) × Int}(h:qs[k]?=some q):(Zb gs qs)[k]?=some (hrec gs q):=by
 unfold Zb;rw [List.getElem?_map,h];rfl
def Tm(gs:List Gr)(qs:List ((Int × Int) × Int))(k:Nat):List (Int × Int):=(Zb gs qs).take k++List.replicate (qs.length - k) (0,0)
theorem zC(gs:List Gr)(qs:List ((Int × Int) × Int)):madeCells #[.int .u64 0,.int .u64 0] (qs.length*2)=RO (Tm gs qs 0):=by
 refine IE (by rw [size_madeCells];simp [Tm]) fun k r hk=>?_
 have hz:∀ i,i<qs.length*2->(madeCells #[.int .u64 0,.int .u64 0] (qs.length*2))[i]?=some (.int .u64 0):=fun i hi=>by
  have:i % 2=0\/i % 2=1:=by omega
  unfold madeCells;rw [Array.getElem?_map,Array.getElem?_range];rw [if_pos hi];rcases this with h|h <;> simp [h]
 unfold Tm at hk;rw [List.take_zero,List.nil_append,Nat.sub_zero] at hk;obtain ⟨h1,h2⟩:=List.getElem?_eq_some_iff.1 hk;rw [List.length_replicate] at h1;rw [List.getElem_replicate] at h2;subst h2;exact ⟨hz _ (by omega),hz _ (by omega)⟩
theorem Kn{gs:List Gr}{qs:List ((Int × Int) × Int)}{k:Nat}{r:Int × Int}(hk:k<qs.length)(h:(Zb gs qs)[k]?=some r):
 ((RO (Tm gs qs k)).setIfInBounds (k*2) (.int .u64 r.1)).setIfInBounds (k*2+1) (.int .u64 r.2)=RO (Tm gs qs (k+1)):=by
 have hl:(Zb gs qs).length=qs.length:=by unfold Zb;rw [List.length_map]
 have l1:∀ j,j<=qs.length->(Tm gs qs j).length=qs.length:=fun j hj=>by unfold Tm;rw [List.length_append,List.length_take,List.length_replicate,hl];omega
 have hsz:(RO (Tm gs qs k)).size=qs.length*2:=by rw [Ql,l1 k (by omega)]
 refine IE (by simp only [Array.size_setIfInBounds];rw [hsz,l1 (k+1) (by omega)]) fun j x hj=>?_;simp only [Array.getElem?_setIfInBounds,Array.size_setIfInBounds,hsz];unfold Tm at hj
 by_cases e:j=k
 · subst e;rw [List.getElem?_append_left (by rw [List.length_take,hl];omega),List.getElem?_take_of_lt (by omega),h] at hj;cases hj;exact ⟨by rw [if_neg (by omega),if_pos rfl,if_pos (by omega)],by rw [if_pos rfl,if_pos (by omega)]⟩
 · have hj2:(Tm gs qs k)[j]?=some x:=by
    unfold Tm
    by_cases hjk:j<k
    · rw [List.getElem?_append_left (by rw [List.length_take,hl];omega),List.getElem?_take_of_lt (by omega)] at hj;rw [List.getElem?_append_left (by rw [List.length_take,hl];omega),List.getElem?_take_of_lt (by omega)];exact hj
    · have t1:((Zb gs qs).take k).length=k:=(by rw [List.length_take,hl];omega);have t2:((Zb gs qs).take (k+1)).length=k+1:=(by rw [List.length_take,hl];omega);rw [List.getElem?_append_right (by omega),t2] at hj;rw [List.getElem?_append_right (by omega),t1];obtain ⟨h1,h2⟩:=List.getElem?_eq_some_iff.1 hj;rw [List.length_replicate] at h1;rw [List.getElem_replicate] at h2;rw [List.getElem?_replicate,if_pos (by omega),h2]
   have h2:=VB hj2;exact ⟨by rw [if_neg (by omega),if_neg (by omega)];exact h2.1,by rw [if_neg (by omega),if_neg (by omega)];exact h2.2⟩
theorem pX(P:Nat->Prop)(t:Option (Nat × Nat))(es:List Ev)(gs:List Gr)(GA:Option Addr)(gc:Nat)(w:World)(hP:∀ k,P k->k<w.heap.size)(hg0:P 8)(hs:UU w P GA (rgCells (gs.map (·.1))))(hgs:zW w P gs)(hw:MW w)(ht:Tp w P t es)(hl:t=none\/es.length<=600000):
 Calls prog 195 #[.pointer (Zz t),.slice GA gs.length gc] w fun e w'=>e=.returned (.int .u64 (ZE (Zc gs)))/\Z8 P w w'/\Tp w' P t (es++Zf gs):=by
 rcases hl with rfl|hl
 · refine (U2 P none [] gs GA gc w hP hg0 hs hgs hw trivial (by simp)).mono ?_;rintro e w' ⟨h1,h2,_⟩;exact ⟨h1,h2,trivial⟩
 · exact U2 P t es gs GA gc w hP hg0 hs hgs hw ht hl
theorem EW (P:Nat->Prop) (t:Option (Nat × Nat)) (es:List Ev) (gs:List Gr) (GA:Option Addr) (gc:Nat) (qs:List ((Int × Int) × Int)) (QA:Option Addr) (qc:Nat) (tY:∀ q∈qs,PJ q.1) (Ro:∀ q∈qs,Vo q.2) (hqn:qs.length<=4096) (w:World) (hP:∀ k,P k->k<w.heap.size) (hg0:P 8)
 (hs:UU w P GA (rgCells (gs.map (·.1)))) (hgs:zW w P gs) (RL:UU w P QA (Wt qs)) (hw:MW w) (ht:Tp w P t es) (hl:t=none\/es.length+4161*qs.length<=600000) :
 Calls prog 206 #[.pointer (Zz t),.slice GA gs.length gc,.slice QA qs.length qc] w fun e w' =>
  ∃ b,e=.returned (.tuple #[.int .u64 (ZE (Zc gs)),.slice (some ⟨b,0,none⟩) qs.length qs.length])/\Z8 P w w'/\Tp w' (Also P b) t (es++Zf gs++XV gs qs.length)/\b<w'.heap.size/\Z6 w' b 148 (RO (Zb gs qs)):=by
 obtain ⟨tb,htb⟩:=eE w.heap.size;obtain ⟨w0,hw0⟩:=eE (((w.alloc (.cells #[.pointer (Zz t)] 193)).alloc (.cells #[.slice GA gs.length gc] 32)).alloc (.cells #[.slice QA qs.length qc] 33));have hb0:Below w.heap.size w w0:=by rw [hw0];exact Z7 (Z7 (bA) _) _
 have T0:Z6 w0 tb 193 #[.pointer (Zz t)]:=by rw [hw0,htb];exact ((Z6.new _ _ _).alloc _).alloc _
 have G0:Z6 w0 (tb+1) 32 #[.slice GA gs.length gc]:=by rw [hw0,htb];exact (Z6.new2 _ _ _ _).alloc _
 have Q0:Z6 w0 (tb+1+1) 33 #[.slice QA qs.length qc]:=by
  rw [hw0,htb];have h:=Z6.new ((w.alloc (.cells #[.pointer (Zz t)] 193)).alloc (.cells #[.slice GA gs.length gc] 32)) 33 #[.slice QA qs.length qc];simpa using h
 have hz0:w0.heap.size=tb+3:=by rw [hw0,htb];simp
 have hm:=Yw hP hb0;have hk0:Z8 P w w0:=Z8.of_below hb0 hP;have HV:=hide (pX (More P w w0) t es gs GA gc w0 hm (.inl hg0) ((hs.kept hk0).mono fun k h=>.inl h) (fun g hg=>⟨(hgs g hg).1,((hgs g hg).2.1.kept hk0).mono fun k h=>.inl h,(hgs g hg).2.2⟩) (hw.step hb0) (ht.more hb0) (by rcases hl with h|h;exact .inl h;exact .inr (by omega)));have qw:Hid (More P w w0 tb):=.inr ⟨by omega,T0.lt⟩;have HMG:Hid (More P w w0 (tb+1)):=.inr ⟨by omega,G0.lt⟩;have jE:Hid (More P w w0 (tb+1+1)):=.inr ⟨by omega,Q0.lt⟩;have HP:=hide hP;have HG:=hide hg0;have HS:=hide hs;have QY:=hide hgs;have aL:=hide RL;have HW:=hide hw;have NI:=hide hk0;have HM:=hide hm;have HQP:=hide tY;have HQU:=hide Ro;have HZ0:=hide hz0;have t0:=T0.q0 rfl;have g0:=G0.q0 rfl;rw [hw0] at t0 g0;clear hP hg0 hs hgs RL hw ht hb0 hm hk0 tY Ro hz0;go_enter func206,ntmps206;go_wp2_with fail;rw [<- hw0,<- htb];have qA:=hide htb;clear htb;refine HV.out.mono ?_;rintro e w1 ⟨rfl,hk1,ht1⟩;obtain ⟨vb,hvb⟩:=eE w1.heap.size;obtain ⟨V,hV⟩:=eE (Zc gs);rw [<- hV];have hmk:=fun w=>JZ qs.length (by omega) w;obtain ⟨W2,hW2⟩:=eE ((w1.alloc (.cells #[.int .u64 (ZE V)] 44)).alloc (.cells (madeCells #[.int .u64 0,.int .u64 0] (qs.length*2)) 148));have hb2:=bF hW2;have V2:Z6 W2 vb 44 #[.int .u64 (ZE V)]:=by rw [hW2,hvb];exact (Z6.new _ _ _).alloc _
 have hz2:W2.heap.size=vb+2:=by rw [hW2,hvb];simp
 have O2:Z6 W2 (vb+1) 148 (RO (Tm gs qs 0)):=by
  have h:Z6 W2 (vb+1) 148 (madeCells #[.int .u64 0,.int .u64 0] (qs.length*2)):=by rw [hW2,hvb];exact Z6.new2 _ _ _ _
  rw [zC] at h;exact h
 have T2:=(T0.kept hk1 qw.out).step hb2;have G2:=(G0.kept hk1 HMG.out).step hb2;have Q2:=(Q0.kept hk1 jE.out).step hb2;have dD:tb+3<=vb:=by have:=hk1.size;have:=HZ0.out;omega
 have hM2:∀ j,More P w w0 j->j<vb:=fun j hj=>by have:=HM.out j hj;have:=hk1.size;omega
 have hQ2:∀ j,Also (Also (More P w w0) vb) (vb+1) j->j<W2.heap.size:=fun j hj=>by
  rcases hj with (hj|hj)|hj
  · have:=hM2 j hj;omega
  · omega
  · omega
 have ht2:Tp W2 (Also (Also (More P w w0) vb) (vb+1)) t (es++Zf gs):=(ht1.add (R:=Also (Also (More P w w0) vb) (vb+1)) fun j hj=>by
  rcases hj with (hj|hj)|hj
  · exact .inl hj
  · exact .inr (by omega)
  · exact .inr (by omega)).step hb2
 have zrn:=hide (NI.out.trans ((hk1.mono fun j h=>.inl h).trans (Z8.of_below hb2 fun j hj=>Nat.lt_of_lt_of_le (hM2 j (.inl hj)) (by omega))));have HPQ:Hid (∀ j,P j->Also (Also (More P w w0) vb) (vb+1) j):=fun j hj=>.inl (.inl (.inl hj))
 have Td:Hid (¬ Also (More P w w0) vb (vb+1)):=fun h=>by
  rcases h with h|h
  · have:=hM2 _ h;omega
  · omega
 have HIT:Hid (∀ (k:Nat) (wr:World),k<qs.length->Z8 (Also (More P w w0) vb) W2 wr->(∀ j,Also (Also (More P w w0) vb) (vb+1) j->j<wr.heap.size)->Z6 wr tb 193 #[.pointer (Zz t)]/\Z6 wr (tb+1) 32 #[.slice GA gs.length gc]/\Z6 wr (tb+1+1) 33 #[.slice QA qs.length qc]/\Z6 wr vb 44 #[.int .u64 (ZE V)] ->
  Tp wr (Also (Also (More P w w0) vb) (vb+1)) t (es++Zf gs++XV gs k)->∃ r:Int × Int,(Zb gs qs)[k]?=some r /\
  Calls prog 275 #[.int .i64 (k:Int),.pointer (some ⟨tb,0,none⟩),.pointer (some ⟨vb,0,none⟩),.pointer (some ⟨tb+1,0,none⟩),.pointer (some ⟨tb+1+1,0,none⟩)] wr fun e w' =>
   e=.returned (.agg #[.int .u64 r.1,.int .u64 r.2])/\Z8 (Also (Also (More P w w0) vb) (vb+1)) wr w'/\Tp w' (Also (Also (More P w w0) vb) (vb+1)) t (es++Zf gs++XV gs (k+1))):=hide fun k wr hk hkr Tf ⟨B1,B3,B4,B2⟩ htr=>by
  obtain ⟨q,hq⟩:∃ q,qs[k]?=some q:=⟨_,List.getElem?_eq_getElem hk⟩;have hkw:Z8 P w wr:=zrn.out.trans (hkr.mono fun j h=>.inl (.inl h));refine ⟨hrec gs q,yN hq,?_⟩
  have h:=uN (Also (Also (More P w w0) vb) (vb+1)) t (es++Zf gs++XV gs k) gs GA gc qs QA qc V tb vb (tb+1) (tb+1+1) k q hq (HQP.out q (List.mem_of_getElem? hq)) (HQU.out q (List.mem_of_getElem? hq)) wr Tf (HPQ.out _ HG.out)
   ⟨.inl (.inl qw.out),.inl (.inr rfl),.inl (.inl HMG.out),.inl (.inl jE.out)⟩ (B1.cell rfl) (B2.cell rfl) (B3.cell rfl) (B4.cell rfl) ((HS.out.kept hkw).mono HPQ.out) (fun g hg=>⟨(QY.out g hg).1,((QY.out g hg).2.1.kept hkw).mono HPQ.out,(QY.out g hg).2.2⟩) ((aL.out.kept hkw).mono HPQ.out) (HW.out.kept hkw HG.out) htr (by
     rcases hl with h|h
     · exact .inl h
     · have h1:=Uz gs k;have h2:=WH gs;have h3:4161*k<=4161*qs.length:=Nat.mul_le_mul_left _ (by omega)
       exact .inr (by rw [List.length_append,List.length_append];omega))
  refine h.mono ?_;rintro e w' ⟨he,hk',ht'⟩;refine ⟨?_,hk',?_⟩
  · rw [he,hV];rfl
  · rw [Ob,<- List.append_assoc];exact ht'
 have q0:=((Q0.kept hk1 jE.out).alloc (.cells #[.int .u64 (ZE V)] 44)).q0 rfl;have q1:=Q2.q0 rfl;rw [hW2] at q1;have HT2:=hide T2;have HG2:=hide G2;have HQ2:=hide Q2;have HV2:=hide V2;have HO2:=hide O2;have zov:=hide ht2;have zoq:=hide hQ2;have HVT:=hide dD;have HZ2:=hide hz2;have HVV:=hide hV;have zox:=hide hW2;have hmf:∀ (fn:Fn) (first cap:Array Value) (w:World),(Instr.makeFunc fn first cap).run prog w=.ok (.func fn first cap) w:=fun _ _ _ _=>rfl;clear T2 G2 Q2 V2 O2 ht2 hQ2 dD hz2 hV T0 G0 Q0 hk1 ht1 hM2 hb2 t0 g0 hw0 HV;go_wp2_with fail;rw [<- hvb,<- zox.out];clear hvb q0 q1 hmk
 go_loopw [21] (fun i wr=>∃ k:Nat,k<=qs.length/\i=.int .i64 k/\(Z6 wr tb 193 #[.pointer (Zz t)]/\Z6 wr (tb+1) 32 #[.slice GA gs.length gc]/\Z6 wr (tb+1+1) 33 #[.slice QA qs.length qc]/\Z6 wr vb 44 #[.int .u64 (ZE V)])/\Z6 wr (vb+1) 148 (RO (Tm gs qs k))/\Z8 (Also (More P w w0) vb) W2 wr/\Tp wr (Also (Also (More P w w0) vb) (vb+1)) t (es++Zf gs++XV gs k))
  (fun i _=>qs.length - (intOf i).toNat)
 case atStart=>exact ⟨0,Nat.zero_le _,rfl,⟨HT2.out,HG2.out,HQ2.out,HV2.out⟩,HO2.out,Z8.refl _ _,by simpa [XV] using zov.out⟩
 case round =>
  obtain ⟨k,hk,rfl,hBs,hO,hkr,htr⟩:=hrel;have Tf:∀ j,Also (Also (More P w w0) vb) (vb+1) j->j<wr.heap.size:=fun j hj=>Nat.lt_of_lt_of_le (zoq.out j hj) hkr.size
  by_cases hlt:k<qs.length
  · obtain ⟨r,hr,hC⟩:=HIT.out k wr hlt hkr Tf hBs htr;have Sv:(k:Int)<(qs.length:Int):=(by omega);have HC:=hide hC;have HST:=hide (Kn hlt hr);have hsz:(RO (Tm gs qs k)).size=qs.length*2:=by
     have:=congrArg Array.size (Kn hlt hr);simp only [Array.size_setIfInBounds] at this;rw [this,Ql];unfold Tm;rw [List.length_append,List.length_take,List.length_replicate];have hl:(Zb gs qs).length=qs.length:=(by unfold Zb;rw [List.length_map]);omega
    have Va:=hide hsz;have Ju:=hide hBs;have HO:=hide hO;have qm:=hide hkr;clear hC hr hsz hBs hO hkr htr Tf;go_wp2_with fail;refine HC.out.mono ?_;rintro e w3 ⟨rfl,hk3,ht3⟩;have B3:=HO.out.kept hk3 (.inr rfl);have c0:=B3.cell (i:=k*2) (Array.getElem?_eq_getElem (by rw [Va.out];omega));have c1:=B3.cell (i:=k*2+1) (Array.getElem?_eq_getElem (by rw [Va.out];omega));have f0:=B3.frozen (k*2);have f1:=B3.frozen (k*2+1);have HB3:=hide B3;have HK3:=hide hk3;have HT3:=hide ht3
    have kb:∀ {g t cs},Also (More P w w0) vb g->Z6 wr g t cs->Z6 ((w3.setCell ⟨vb+1,k*2,none⟩ (.int .u64 r.1)).setCell ⟨vb+1,k*2+1,none⟩ (.int .u64 r.2)) g t cs:=fun {g t cs} hg hB=>by
     have hne:g≠vb+1:=fun e=>Td.out (e ▸ hg);exact ((hB.kept HK3.out (.inl hg)).far (p:=⟨vb+1,k*2,none⟩) hne _).far (p:=⟨vb+1,k*2+1,none⟩) hne _
    have zst:Z6 ((w3.setCell ⟨vb+1,k*2,none⟩ (.int .u64 r.1)).setCell ⟨vb+1,k*2+1,none⟩ (.int .u64 r.2)) tb 193 #[.pointer (Zz t)]/\Z6 ((w3.setCell ⟨vb+1,k*2,none⟩ (.int .u64 r.1)).setCell ⟨vb+1,k*2+1,none⟩ (.int .u64 r.2)) (tb+1) 32 #[.slice GA gs.length gc]/\Z6 ((w3.setCell ⟨vb+1,k*2,none⟩ (.int .u64 r.1)).setCell ⟨vb+1,k*2+1,none⟩ (.int .u64 r.2)) (tb+1+1) 33 #[.slice QA qs.length qc]/\Z6 ((w3.setCell ⟨vb+1,k*2,none⟩ (.int .u64 r.1)).setCell ⟨vb+1,k*2+1,none⟩ (.int .u64 r.2)) vb 44 #[.int .u64 (ZE V)] :=
     ⟨kb (.inl qw.out) Ju.out.1,kb (.inl HMG.out) Ju.out.2.1,kb (.inl jE.out) Ju.out.2.2.1,kb (.inr rfl) Ju.out.2.2.2⟩
    have hO2:Z6 ((w3.setCell ⟨vb+1,k*2,none⟩ (.int .u64 r.1)).setCell ⟨vb+1,k*2+1,none⟩ (.int .u64 r.2)) (vb+1) 148 (RO (Tm gs qs (k+1))):=by
     have h:=(HB3.out.set (k*2) (.int .u64 r.1)).set (k*2+1) (.int .u64 r.2);rw [HST.out] at h;exact h
    have hk2:Z8 (Also (More P w w0) vb) W2 ((w3.setCell ⟨vb+1,k*2,none⟩ (.int .u64 r.1)).setCell ⟨vb+1,k*2+1,none⟩ (.int .u64 r.2)):=(qm.out.trans (HK3.out.mono fun j hj=>.inl hj)).trans ((Z8.setCell Td.out _ _ _).trans (Z8.setCell Td.out _ _ _));have ht2:Tp ((w3.setCell ⟨vb+1,k*2,none⟩ (.int .u64 r.1)).setCell ⟨vb+1,k*2+1,none⟩ (.int .u64 r.2)) (Also (Also (More P w w0) vb) (vb+1)) t (es++Zf gs++XV gs (k+1)):=(HT3.out.set (.inr rfl) _ _).set (.inr rfl) _ _;have Uv:=hide (And.intro zst (And.intro hO2 (And.intro hk2 ht2)));clear kb zst hO2 hk2 ht2 B3 hk3 ht3;go_wp2;go_roundw
    case rel=>exact ⟨k+1,by omega,by go_num,Uv.out⟩
    case measure=>simp [intOf];omega
  · obtain rfl:k=qs.length:=(by omega);have v0:=hBs.2.2.2.q0 rfl;have hrow:Tm gs qs qs.length=Zb gs qs:=by
     have hl:(Zb gs qs).length=qs.length:=(by unfold Zb;rw [List.length_map]);unfold Tm;rw [Nat.sub_self,List.replicate_zero,List.append_nil,List.take_of_length_le (by omega)]
    rw [hrow] at hO
    have HF:=hide (show Z8 P w wr/\Tp wr (Also P (vb+1)) t (es++Zf gs++XV gs qs.length)/\vb+1<wr.heap.size/\Z6 wr (vb+1) 148 (RO (Zb gs qs)) from
     ⟨zrn.out.trans (hkr.mono fun j h=>.inl (.inl h)),htr.mono fun j hj=>by
       rcases hj with hj|hj
       · exact HPQ.out j hj
       · exact .inr hj,hO.lt,hO⟩)
    clear hBs hO hkr htr Tf hrow;go_wp2;go_ret2;exact ⟨vb+1,by rw [<- HVV.out];rfl,HF.out⟩
theorem BF(gs:List Gr)(GA:Option Addr)(gc:Nat)(n:Nat)(w:World)(hs:Sl w w.heap.size GA (rgCells (gs.map (·.1)))):
 Calls prog 205 #[.slice GA gs.length gc,.int .i64 (n:Int)] w fun e w'=>e=.returned (.int .i64 (Yl gs n))/\Below w.heap.size w w':=by
 have Qz:=QH (gs.map (·.1)) GA gc w hs;rw [List.length_map] at Qz;have HC:=hide Qz;obtain ⟨F,hF⟩:=eE (Zi (gs.map (·.1)));have HB:Hid (Yl gs n=if F≠0 then F else if n<1\/4096<n then 6 else 0):=by rw [hF];exact rfl
 rw [<- hF] at HC;clear Qz hF hs
 by_cases h0:F=0
 · by_cases h1:(n:Int)<1
   · have hr:Yl gs n=6:=(by rw [HB.out,if_neg (by simpa using h0),if_pos (by omega)]);rw [hr];subst h0;clear hr HB;go_enter func205,ntmps205;go_wp2_with fail;refine HC.out.mono ?_;rintro e w' ⟨rfl,hb⟩;go_wp2;go_ret;exact ⟨rfl,hb⟩
   · by_cases h2:(4096:Int)<(n:Int)
     · have hr:Yl gs n=6:=(by rw [HB.out,if_neg (by simpa using h0),if_pos (by omega)]);rw [hr];subst h0;clear hr HB;go_enter func205,ntmps205;go_wp2_with fail;refine HC.out.mono ?_;rintro e w' ⟨rfl,hb⟩;go_wp2;go_ret;exact ⟨rfl,hb⟩
     · have hr:Yl gs n=0:=(by rw [HB.out,if_neg (by simpa using h0),if_neg (by omega)]);rw [hr];subst h0;clear hr HB;go_enter func205,ntmps205;go_wp2_with fail;refine HC.out.mono ?_;rintro e w' ⟨rfl,hb⟩;go_wp2;go_ret;exact ⟨rfl,hb⟩
 · have hr:Yl gs n=F:=(by rw [HB.out,if_pos h0]);rw [hr];clear hr HB;go_enter func205,ntmps205;go_wp2_with fail;refine HC.out.mono ?_;rintro e w' ⟨rfl,hb⟩;go_wp2;go_ret;exact ⟨rfl,hb⟩
theorem U6 {fn:Func} {p u:Tmp} {tmps:Array Value} {w:World} {g:Nat} {v0 v1 v2:Value} (h:fn.results=#[.cell p 175,.tmp u])
 (hp:tmps.getD p undef=.pointer (some ⟨g,0,none⟩)) (hb:Z6 w g 175 #[v0,v1,v2]) :
 (results fn tmps).run prog w=.ok (.tuple #[.agg #[v0,v1,v2],tmps.getD u undef]) w:=by
 have c0:=hb.q0 rfl;have c1:=hb.q1 rfl;have c2:=hb.q2 rfl;have hp':tmps[p]?.getD undef=.pointer (some ⟨g,0,none⟩):=by rw [<- hp];simp
 simp [results,h,hp',go_sem,c0,c1,c2]
def Bf(P:Nat->Prop)(t:Option (Nat × Nat))(es':List Ev)(r:qd × Int)(w:World)(e:Ending)(w':World):Prop :=
 ∃ A c,e=.returned (.tuple #[.agg #[.int .i64 r.1.val,.int .i64 r.1.cnt,.slice A r.1.recs.length c],.int .i64 r.2])/\Z8 P w w'/\Tp w' P t es'/\Sl w' w'.heap.size A (ZA r.1.recs)
theorem Sl.Qp{w:World}{g:Nat}{xs:List Value}{b o:Nat}(h:Sl w w.heap.size (some ⟨g,0,none⟩) xs)(hne:g≠b)(u:Value):Sl (w.setCell ⟨b,o,none⟩ u) (w.setCell ⟨b,o,none⟩ u).heap.size (some ⟨g,0,none⟩) xs :=
 (h.far (p:=⟨b,o,none⟩) (fun _ x hx=>by cases hx;exact hne) u).more (by simp)
theorem pE (P:Nat->Prop) (t:Option (Nat × Nat)) (es:List Ev) (gs:List Gr) (GA:Option Addr) (gc:Nat) (qs:List ((Int × Int) × Int)) (QA:Option Addr) (qc:Nat) (tY:∀ q∈qs,PJ q.1) (Ro:∀ q∈qs,Vo q.2) (w:World) (hP:∀ k,P k->k<w.heap.size) (hg0:P 8)
 (hs:UU w P GA (rgCells (gs.map (·.1)))) (hgs:zW w P gs) (RL:UU w P QA (Wt qs)) (hw:MW w) (ht:Tp w P t es) (hl:t=none\/es.length+4161*qs.length+(Xv (lg qs.length)).length<=600000) :
 Calls prog 147 #[.pointer (Zz t),.slice GA gs.length gc,.slice QA qs.length qc] w (Bf P t (es++Xl gs qs.length) (YW gs qs) w):=by
 obtain ⟨rb,hrb⟩:=eE w.heap.size;obtain ⟨w0,hw0⟩:=eE (w.alloc (.cells #[.int .i64 0,.int .i64 0,.slice none 0 0] 175));have hb0:=bE hw0;have R0:Z6 w0 rb 175 #[.int .i64 0,.int .i64 0,.slice none 0 0]:=by rw [hw0,hrb];exact Z6.new _ _ _
 have Nu:¬ P rb:=fun h=>by have:=hP _ h;omega
 have HC:=hide (BF gs GA gc qs.length w0 (((hs.sl hP).below hb0).more hb0.size))
 by_cases hc:Yl gs qs.length=0
 · have hn:1<=qs.length/\qs.length<=4096:=by
    unfold Yl at hc;split at hc
    · rename_i h;exact absurd hc h
    · split at hc
      · cases hc
      · omega
   have hv:YW gs qs=(⟨bif Zc gs then 1 else 0,XQ (Zb gs qs),Yi Zm (Zb gs qs)⟩,0):=(by unfold YW;rw [if_neg (by simpa using hc)]);have he:Xl gs qs.length=Zf gs++XV gs qs.length++UY qs.length++WM (Xv (lg qs.length)):=(by unfold Xl;rw [if_neg (by simpa using hc)]);rw [hv,he];rw [hc] at HC;have hrl:(Zb gs qs).length=qs.length:=(by unfold Zb;rw [List.length_map]);have au:=hide (Ui gs Ro);have HP:=hide hP;have HG:=hide hg0;have HS:=hide hs;have QY:=hide hgs;have aL:=hide RL;have HW:=hide hw;have HT:=hide ht;have HQP:=hide tY;have HQU:=hide Ro;have qy:=hide hrl;have HN:=hide hn;have HB0:=hide hb0;have lu:=hide R0;have Tq:=hide Nu;have HL:=hide hl;clear hv he hc hrl hP hg0 hs hgs RL hw ht tY Ro hn hb0 R0 Nu hl;go_enter func147,ntmps147;go_wp2_with fail;rw [<- hw0,<- hrb];have Eo:=hide hrb;clear hw0 hrb;refine HC.out.mono ?_;rintro e w1 ⟨rfl,hb1⟩;have hB1:=Z9 HB0.out hb1;have zpv:=Eo.out;have R1:=lu.out.step hb1;have hK1:Z8 P w w1:=Z8.of_below hB1 HP.out
   have hP1:∀ j,Also P rb j->j<w1.heap.size:=fun j hj=>by
    rcases hj with hj|hj
    · exact Nat.lt_of_lt_of_le (HP.out j hj) hK1.size
    · subst hj;exact R1.lt
   have ht1:Tp w1 (Also P rb) t es:=(HT.out.add (R:=Also P rb) fun j hj=>by
    rcases hj with hj|hj
    · exact .inl hj
    · exact .inr (by omega)).step hB1
   have HCO:=hide (EW (Also P rb) t es gs GA gc qs QA qc HQP.out HQU.out HN.out.2 w1 hP1 (.inl HG.out) ((HS.out.kept hK1).mono fun j h=>.inl h) (fun g hg=>⟨(QY.out g hg).1,((QY.out g hg).2.1.kept hK1).mono fun j h=>.inl h,(QY.out g hg).2.2⟩) ((aL.out.kept hK1).mono fun j h=>.inl h) (HW.out.kept hK1 HG.out) ht1 (by rcases HL.out with h|h;exact .inl h;exact .inr (by omega)));have Bl:=hide hK1;have HR1:=hide R1;have Nj:=hide hP1;clear hb1 hB1 hK1 hP1 ht1 R1 HC zpv;go_wp2_with fail;refine HCO.out.mono ?_;rintro e w2 ⟨b,rfl,hk2,ht2,hbl,hB2⟩;have R2:=HR1.out.kept hk2 (.inr rfl)
   have hP2:∀ j,Also (Also P rb) b j->j<w2.heap.size:=fun j hj=>by
    rcases hj with hj|hj
    · exact Nat.lt_of_lt_of_le (Nj.out j hj) hk2.size
    · subst hj;exact hbl
   have hs2:UU w2 (Also (Also P rb) b) (some ⟨b,0,none⟩) (ZA (Zb gs qs)):=.inr ⟨b,0,rfl,.inr rfl,fun j u hu=>by
    rw [Nat.zero_add]
    exact hB2.cell (by unfold RO;rw [List.getElem?_toArray];exact hu)⟩
   have HCT:=hide (xZ (Also (Also P rb) b) t (es++Zf gs++XV gs qs.length) (Zb gs qs) au.out (by rw [qy.out];exact HN.out.2) (some ⟨b,0,none⟩) qs.length w2 hP2 hs2 ht2 (by
    rcases HL.out with h|h
    · exact .inl h
    · have h1:=Uz gs qs.length;have h2:=WH gs
      exact .inr (by rw [List.length_append,List.length_append];omega)))
   rw [qy.out] at HCT;obtain ⟨V,hV⟩:=eE (Zc gs);have xE:=hide (fun wk=>Ae V wk);have HVV:=hide hV;rw [<- hV];obtain ⟨vt,dD⟩:∃ vt:Int,vt=(bif V then 1 else 0):=⟨_,rfl⟩;have hvb:0<=vt/\vt<=1:=(by rw [dD];cases V <;> decide);rw [<- dD] at xE;have HVT:=hide dD;obtain ⟨C,hC⟩:=eE (XQ (Zb gs qs));have hcl:=RF _ au.out;rw [qy.out,<- hC] at hcl;rw [<- hC] at HCT;have kQ:=hide hC;have hn4:=HN.out.2;have hw1:IntKind.i64.wrap vt=vt:=(by rw [IntKind.wrap_i64];omega);have hw2:IntKind.i64.wrap (C:Int)=(C:Int):=(by rw [IntKind.wrap_i64];omega);have HR2:=hide R2;have kS:=hide hk2;have HP2:=hide hP2;have HS2:=hide hs2;have HB2:=hide hB2;clear hV dD hC hk2 ht2 hbl hB2 R2 hP2 hs2 HCO;go_wp2_with fail;refine (xE.out _).mono ?_;rintro e w2' ⟨rfl,rfl⟩;go_wp2_with fail;refine HCT.out.mono ?_;rintro e w3 ⟨rfl,hk3,ht3⟩;obtain ⟨ab,hab⟩:=eE w3.heap.size;obtain ⟨w4,hw4⟩:=eE (w3.alloc (.cells #[.int .i64 vt,.int .i64 (C:Int),.slice none 0 0] 175));have hb4:=bE hw4;have A4:Z6 w4 ab 175 #[.int .i64 vt,.int .i64 (C:Int),.slice none 0 0]:=(by rw [hw4,hab];exact Z6.new _ _ _);have hP3:∀ j,Also (Also P rb) b j->j<w3.heap.size:=fun j hj=>Nat.lt_of_lt_of_le (HP2.out j hj) hk3.size
   have Et:∀ j,Also (Also (Also P rb) b) ab j->j<w4.heap.size:=fun j hj=>by
    rcases hj with hj|hj
    · exact Nat.lt_of_lt_of_le (hP3 j hj) hb4.size
    · subst hj;exact A4.lt
   have mg:Z8 (Also (Also P rb) b) w2 w4:=hk3.trans (Z8.of_below hb4 hP3);have R4:=HR2.out.kept mg (.inl (.inr rfl))
   have KL:Tp w4 (Also (Also (Also P rb) b) ab) t (es++Zf gs++XV gs qs.length++UY qs.length):=(ht3.add (R:=Also (Also (Also P rb) b) ab) fun j hj=>by
    rcases hj with hj|hj
    · exact .inl hj
    · exact .inr (by omega)).step hb4
   have HSO:=hide (wB (Also (Also (Also P rb) b) ab) t (es++Zf gs++XV gs qs.length++UY qs.length) (Zb gs qs) au.out (by rw [qy.out];exact HN.out.1) (by rw [qy.out];exact HN.out.2) (some ⟨b,0,none⟩) qs.length w4 Et ((HS2.out.kept mg).mono fun j h=>.inl h) KL (by
    rcases HL.out with h|h
    · exact .inl h
    · have h1:=Uz gs qs.length;have h2:=WH gs;have h3:=PO qs.length
      exact .inr (by rw [qy.out,List.length_append,List.length_append,List.length_append];omega)))
   rw [qy.out] at HSO;have ztt:rb<ab:=(by have:=HR2.out.lt;have:=hk3.size;omega);have HA4:=hide A4;have HR4:=hide R4;have zoi:=hide mg;have xK:=hide Et;have kL:=hide hab;have zrx:=hide ztt;clear hk3 ht3 hb4 A4 hP3 Et mg R4 KL HCT ztt;go_wp2_with fail;rw [<- hw4,<- hab];clear hw4 hab;refine HSO.out.mono ?_;rintro e w5 ⟨sb,rfl,hk5,Sz,cK,zuf⟩;have A5:=HA4.out.kept hk5 (.inr rfl);have R5:=HR4.out.kept hk5 (.inl (.inl (.inr rfl)));have z0:=A5.q0 rfl;have z1:=A5.q1 rfl;have z2:=A5.q2 rfl;have f2:=A5.frozen 2;have y0:=R5.q0 rfl;have y1:=R5.q1 rfl;have y2:=R5.q2 rfl;have g0:=R5.frozen 0;have g1:=R5.frozen 1;have g2:=R5.frozen 2;have hne1:¬ rb=ab:=(by have:=zrx.out;omega);have hne2:¬ ab=rb:=(by omega);have ztk:sb≠ab:=fun h=>cK (.inr h);have ztl:sb≠rb:=fun h=>cK (.inl (.inl (.inr h)));have HNS:=hide (And.intro ztk ztl);have HRR:=hide (((R5.far (p:=⟨ab,2,none⟩) (by dsimp only;omega) (.slice (some ⟨sb,0,none⟩) qs.length qs.length)).set 0 (.int .i64 vt)).set 1 (.int .i64 (C:Int)));have hKK:Z8 P w w5:=(Bl.out.trans (kS.out.mono fun j h=>.inl h)).trans ((zoi.out.mono fun j h=>.inl (.inl h)).trans (hk5.mono fun j h=>.inl (.inl (.inl h))));have HKK:=hide hKK;have HT5:=hide (Sz.mono (R:=P) fun j h=>.inl (.inl (.inl h)));have HSL:=hide zuf
   have HTM:Hid (Tp w5 (Also (Also P rb) ab) t (es++Zf gs++XV gs qs.length++UY qs.length++WM (Xv (lg qs.length)))):=Sz.mono fun j h=>by
    rcases h with (h|h)|h
    · exact .inl (.inl (.inl h))
    · exact .inl (.inl (.inr h))
    · exact .inr h
   clear hk5 Sz cK zuf A5 R5 hKK ztk ztl;go_wp2;refine bodyPost_ret (U6 rfl rfl (HRR.out.set 2 (.slice (some ⟨sb,0,none⟩) qs.length qs.length))) rfl ?_;have hil:(Yi Zm (Zb gs qs)).length=qs.length:=(by rw [Vf,qy.out]);have hab':¬ P ab:=fun h=>by have:=HP.out _ h;have:=zrx.out;have:=Eo.out;omega
   refine ⟨some ⟨sb,0,none⟩,qs.length,?_,?_,?_,?_⟩
   · rw [hil,<- HVV.out,<- HVT.out,<- kQ.out];rfl
   · exact HKK.out.trans ((Z8.setCell hab' _ _ _).trans ((Z8.setCell Tq.out _ _ _).trans ((Z8.setCell Tq.out _ _ _).trans (Z8.setCell Tq.out _ _ _))))
   · have h:=(((HTM.out.set (.inr rfl) 2 (.slice (some ⟨sb,0,none⟩) qs.length qs.length)).set (.inl (.inr rfl)) 0 (.int .i64 vt)).set (.inl (.inr rfl)) 1 (.int .i64 (C:Int))).set (.inl (.inr rfl)) 2 (.slice (some ⟨sb,0,none⟩) qs.length qs.length);have h2:=h.mono (R:=P) fun j h=>.inl (.inl h);simp only [List.append_assoc] at h2 ⊢;exact h2
   · exact (((HSL.out.Qp HNS.out.1 _).Qp HNS.out.2 _).Qp HNS.out.2 _).Qp HNS.out.2 _
 · have hv:YW gs qs=(Xk,Yl gs qs.length):=(by unfold YW;rw [if_pos hc]);have he:Xl gs qs.length=[]:=(by unfold Xl;rw [if_pos hc]);rw [hv,he,List.append_nil];obtain ⟨F,hF⟩:=eE (Yl gs qs.length);rw [<- hF] at hc HC ⊢;have HP:=hide hP;have HT:=hide ht;have HB0:=hide hb0;have lu:=hide R0;have Tq:=hide Nu;clear hv he hF hP hg0 hs hgs RL hw ht tY Ro hb0 R0 Nu hl;go_enter func147,ntmps147;go_wp2_with fail;rw [<- hw0,<- hrb];have Eo:=hide hrb;clear hw0 hrb;refine HC.out.mono ?_;rintro e w1 ⟨rfl,hb1⟩;have R1:=lu.out.step hb1;have y0:=R1.q0 rfl;have y1:=R1.q1 rfl;have y2:=R1.q2 rfl;have g0:=R1.frozen 0;have g1:=R1.frozen 1;have g2:=R1.frozen 2;have HB1:=hide (Z9 HB0.out hb1);have HRR:=hide (((R1.set 0 (.int .i64 0)).set 1 (.int .i64 0)).set 2 (.slice none 0 0));clear R1 hb1 HC;go_wp2;refine bodyPost_ret (U6 rfl rfl HRR.out) rfl ?_;have hrl:w.heap.size<=rb:=(by rw [Eo.out];exact Nat.le_refl _);have hbf:=((HB1.out.setCell (p:=⟨rb,0,none⟩) hrl (.int .i64 0)).setCell (p:=⟨rb,1,none⟩) hrl (.int .i64 0)).setCell (p:=⟨rb,2,none⟩) hrl (.slice none 0 0);exact ⟨none,0,rfl,Z8.of_below hbf HP.out,HT.out.step hbf,Sl.nil _ _ _⟩
theorem IG(x:Int × Int)(hx:Qw x)(w:World):Calls prog 223 #[.agg #[.int .u64 x.1,.int .u64 x.2]] w fun e w'=>e=.returned (.agg #[.int .u64 x.1,.int .u64 x.2])/\Below w.heap.size w w':=by
 obtain ⟨l,d⟩:=x;rcases hx with ⟨rfl,h2,h3⟩|h
 · dsimp only;go_enter func223,ntmps223;go_wp2;exact bodyPost_ret (v:=.agg #[.int .u64 1,.int .u64 d]) (by simp [results,Tryz.results223,go_sem]) rfl ⟨rfl,by repeat first|exact Below.refl _ _|refine Z7 ?_ _⟩
 · cases h;dsimp only;go_enter func223,ntmps223;go_wp2;exact bodyPost_ret (v:=.agg #[.int .u64 0,.int .u64 0]) (by simp [results,Tryz.results223,go_sem]) rfl ⟨rfl,by repeat first|exact Below.refl _ _|refine Z7 ?_ _⟩
theorem jd(x y:Int × Int)(hx:Qw x)(hy:Qw y)(w:World):Calls prog 224 #[.agg #[.int .u64 x.1,.int .u64 x.2],.agg #[.int .u64 y.1,.int .u64 y.2]] w fun e w'=>e=.returned (.bool (decide (Zm x<Zm y)))/\Below w.heap.size w w':=by
 rw [<- Kl hx hy];have HX:=hide (fun w=>IG x hx w);have HY:=hide (fun w=>IG y hy w);have H0:=hide (And.intro hx hy);clear hx hy;obtain ⟨b0,hb0⟩:=eE w.heap.size;obtain ⟨w0,hw0⟩:=eE ((w.alloc (.cells #[.int .u64 x.1,.int .u64 x.2] 148)).alloc (.cells #[.int .u64 y.1,.int .u64 y.2] 148));have zss:=bF hw0;have Y0:Z6 w0 (b0+1) 148 #[.int .u64 y.1,.int .u64 y.2]:=by rw [hw0,hb0];exact Z6.new2 _ _ _ _
 go_enter func224,ntmps224;go_wp2_with fail;rw [<- hw0,<- hb0];have HB0:=hide hb0;clear hw0 hb0;refine (HX.out w0).mono ?_;rintro e w1 ⟨rfl,hb1⟩;obtain ⟨b2,hb2⟩:=eE w1.heap.size;obtain ⟨w2,hw2⟩:=eE (w1.alloc (.cells #[.int .u64 x.1,.int .u64 x.2] 148));have HB2:Below w.heap.size w w2:=by rw [hw2];exact Z7 (Z9 zss hb1) _
 have X2:Z6 w2 b2 148 #[.int .u64 x.1,.int .u64 x.2]:=by rw [hw2,hb2];exact Z6.new _ _ _
 have Y2:Z6 w2 (b0+1) 148 #[.int .u64 y.1,.int .u64 y.2]:=by rw [hw2];exact (Y0.step hb1).alloc _
 have y0:w2.cell? ⟨b0+1,0,none⟩=some (.int .u64 y.1):=Y2.q0 rfl;have y1:w2.cell? ⟨b0+1,1,none⟩=some (.int .u64 y.2):=Y2.q1 rfl;rw [hw2] at y0 y1;have HB:=hide hb2;clear zss hb1 hb2 Y0 Y2;go_wp2_with fail;rw [<- hw2,<- HB.out];clear hw2 y0 y1;refine (HY.out w2).mono ?_;rintro e w3 ⟨rfl,hb3⟩;have X3:=X2.step hb3;have HB3:=Z9 HB2 hb3;obtain ⟨w4,hw4⟩:=eE (w3.alloc (.cells #[.int .u64 y.1,.int .u64 y.2] 148));have KX:Below w.heap.size w w4:=by rw [hw4];exact Z7 HB3 _
 have X4:Z6 w4 b2 148 #[.int .u64 x.1,.int .u64 x.2]:=by rw [hw4];exact X3.alloc _
 have x0:w4.cell? ⟨b2,0,none⟩=some (.int .u64 x.1):=X4.q0 rfl;have x1:w4.cell? ⟨b2,1,none⟩=some (.int .u64 x.2):=X4.q1 rfl;rw [hw4] at x0 x1 KX;obtain ⟨hx,hy⟩:=H0.out;clear X2 X3 X4 hb3 hw4 H0 HX HY HB3 HB2;obtain ⟨a,b⟩:=x;obtain ⟨c,d⟩:=y;dsimp only at *;rcases hx with ⟨h1,h2,h3⟩|h1 <;> rcases hy with ⟨k1,k2,k3⟩|k1
 · subst h1;subst k1;have hlt:(b<d)\/¬ (b<d):=(by omega);rcases hlt with hlt|hlt
   all_goals
    go_wp2;go_ret;refine ⟨?_,KX⟩;simp [hlt]
 · cases k1;subst h1;go_wp2;go_ret;exact ⟨by simp,KX⟩
 · cases h1;subst k1;go_wp2;go_ret;exact ⟨by simp,KX⟩
 · cases h1;cases k1;go_wp2;go_ret;exact ⟨by simp,KX⟩
theorem oW(rs:List (Int × Int))(hcl:∀ r∈rs,Qw r)(hn:rs.length<=4096)(A:Option Addr)(c:Nat)(w:World)(hs:Sl w w.heap.size A (ZA rs)):
 Calls prog 161 #[.slice A rs.length c] w fun e w'=>e=.returned (.int .u64 (XQ rs:Int))/\Below w.heap.size w w':=by
 have HS:=hide hs;have OE:=hide hcl;clear hs hcl;go_enter func161,ntmps161;go_wp2
 go_loopw [3,4] (fun u i wr=>∃ k:Nat,k<=rs.length/\i=.int .i64 k/\u=.int .u64 (XQ (rs.take k):Int)/\Below w.heap.size w wr)
  (fun _ i _=>rs.length - (intOf i).toNat)
 case atStart=>exact ⟨0,Nat.zero_le _,rfl,rfl,Below.refl _ _⟩
 case round =>
  obtain ⟨k,hk,rfl,rfl,hbr⟩:=hrel
  by_cases hlt:k<rs.length
  · have Sv:(k:Int)<(rs.length:Int):=(by omega);obtain ⟨r,hr⟩:∃ r,rs[k]?=some r:=⟨_,List.getElem?_eq_getElem hlt⟩;have hrc:=OE.out r (List.mem_of_getElem? hr);obtain ⟨b,off,rfl,hb,c0,c1⟩:=(HS.out.below hbr).Gl hr;have hcs:=JA (rs.take k) r;have htk:rs.take (k+1)=rs.take k++[r]:=(by rw [List.take_add_one,hr];rfl);rw [<- htk] at hcs;have hle:=RF (rs.take k) (fun x hx=>OE.out x (List.mem_of_mem_take hx));rw [List.length_take] at hle;have hr1:0<=r.1/\r.1<=1:=by
     rcases hrc with ⟨h,_⟩|h
     · rw [h];decide
     · rw [h];decide
    have hbit:IntKind.u64.wrap (r.1.tmod 2)=r.1:=by
     rcases hrc with ⟨h,_⟩|h
     · rw [h];rfl
     · rw [h];rfl
    have hw:IntKind.u64.wrap ((XQ (rs.take k):Int)+r.1)=(XQ (rs.take (k+1)):Int):=(by rw [IntKind.wrap_u64,hcs];omega);obtain ⟨C0,hC0⟩:=eE (XQ (rs.take k));obtain ⟨C1,bQ⟩:=eE (XQ (rs.take (k+1)));have Ru:=hide bQ;rw [<- hC0] at hw;rw [<- bQ] at hw;rw [<- hC0];obtain ⟨r1,r2⟩:=r;dsimp only at *;clear hr hcs htk hle hrc hC0 bQ;go_wp2;go_roundw
    case rel=>exact ⟨k+1,by omega,by go_num,by rw [show r1 % 2=r1 by omega,hw,Ru.out],hbr⟩
    case measure=>simp [intOf];omega
  · obtain rfl:k=rs.length:=(by omega);rw [List.take_length];go_wp2;go_ret;exact ⟨rfl,hbr⟩
end
section
open Go.RowKit Go.Shelf
section
variable {α:Type}{key:α->Nat}
theorem CW:∀ (O:List α) (m:Nat) (x:α),m<=O.length->(∀ i y,i<m->O[i]?=some y->key y<=key x)->(∀ y,O[m]?=some y->key x<key y)->ins key x O=O.take m++x::O.drop m
 | [],m,x,hm,_,_=>by simp [ins]
 | y::O,0,x,_,_,h=>by
   have:=h y rfl;unfold ins;rw [if_pos this];rfl
 | y::O,m+1,x,hm,hl,h=>by
   have h0:=hl 0 y (by omega) rfl;unfold ins;rw [if_neg (by omega),CW O m x (by simpa using hm) (fun i z hi hz=>hl (i+1) z (by omega) hz) (fun z hz=>h z hz)];rfl
theorem Po{O:List α}{s:Nat}{X y:α}(h:s<=O.length):(O.take s++X::O.drop s).set s y=O.take s++y::O.drop s:=by
 have hl:(O.take s).length=s:=by rw [List.length_take];omega
 rw [List.set_append_right _ _ (by omega),hl,Nat.sub_self];rfl
theorem D5{O:List α}{s:Nat}{y:α}(h0:0<s)(hy:O[s - 1]?=some y):O.take s++y::O.drop s=O.take (s - 1)++y::O.drop (s - 1):=by
 obtain ⟨t,rfl⟩:∃ t,s=t+1:=⟨s - 1,by omega⟩;rw [Nat.add_sub_cancel] at hy ⊢;obtain ⟨hl,he⟩:=List.getElem?_eq_some_iff.1 hy;rw [List.take_add_one,hy,List.drop_eq_getElem_cons (i:=t) hl,he];simp
end
theorem Wm(rs:List (Int × Int))(r:Int × Int):ZA (rs++[r])=ZA rs++[.int .u64 r.1,.int .u64 r.2]:=by simp [ZA]
theorem Kj:∀ (l:List (Int × Int)) (t:Nat) (r:Int × Int),((ZA l).set (t*2) (.int .u64 r.1)).set (t*2+1) (.int .u64 r.2)=ZA (l.set t r)
 | [],t,r=>by simp [ZA]
 | x::l,0,r=>by simp [ZA]
 | x::l,t+1,r=>by
   have h:=Kj l t r;show ((Value.int .u64 x.1::Value.int .u64 x.2::ZA l).set ((t+1)*2) _).set ((t+1)*2+1) _=Value.int .u64 x.1::Value.int .u64 x.2::ZA (l.set t r);rw [show (t+1)*2=t*2+1+1 by omega];simp only [List.set_cons_succ];rw [h]
theorem Ki:∀ (l:List (Int × Int)) (t:Nat) (r:Int × Int),l[t]?=some r->(ZA l)[t*2]?=some (.int .u64 r.1)/\(ZA l)[t*2+1]?=some (.int .u64 r.2)
 | [],t,r,h=>by simp at h
 | x::l,0,r,h=>by
   cases h;exact ⟨rfl,rfl⟩
 | x::l,t+1,r,h=>by
   have h2:=Ki l t r (by simpa using h);have e:ZA (x::l)=Value.int .u64 x.1::Value.int .u64 x.2::ZA l:=rfl;rw [e,show (t+1)*2=t*2+1+1 by omega];exact h2
section
variable {w w':World}{B g n cap:Nat}{l:List (Int × Int)}
theorem Nc(h:w.ownsRow B 148 2 (.slice (some ⟨g,0,none⟩) n cap) n (ZA l))(hl:l.length=n){t:Nat}{r:Int × Int}(ht:l[t]?=some r):w.cell? ⟨g,t*2,none⟩=some (.int .u64 r.1)/\w.cell? ⟨g,t*2+1,none⟩=some (.int .u64 r.2):=by
 have hlt:=(List.getElem?_eq_some_iff.1 ht).1;obtain ⟨h0,h1⟩:=Ki l t r ht;exact ⟨(h.cellAt _ (by omega)).trans h0,(h.cellAt _ (by omega)).trans h1⟩
theorem Jh(h:w.ownsRow B 148 2 (.slice (some ⟨g,0,none⟩) n cap) n (ZA l)){j:Nat}(r:Int × Int):
 ((w.setCell ⟨g,j*2,none⟩ (.int .u64 r.1)).setCell ⟨g,j*2+1,none⟩ (.int .u64 r.2)).ownsRow B 148 2 (.slice (some ⟨g,0,none⟩) n cap) n (ZA (l.set j r))/\w.grownBy ((w.setCell ⟨g,j*2,none⟩ (.int .u64 r.1)).setCell ⟨g,j*2+1,none⟩ (.int .u64 r.2)) (some g):=by
 obtain ⟨a1,a2⟩:=h.stored (j*2) (.int .u64 r.1);obtain ⟨b1,b2⟩:=a1.stored (j*2+1) (.int .u64 r.2);rw [Kj] at b1;exact ⟨b1,⟨b2.os.trans a2.os,b2.tape.trans a2.tape,b2.output.trans a2.output,Nat.le_trans a2.size b2.size,fun k hk hne=>(b2.block k (Nat.lt_of_lt_of_le hk a2.size) hne).trans (a2.block k hk hne)⟩⟩
theorem Sk{w w' w2:World}{r:Option Nat}(a2:w.grownBy w' r)(b2:w'.grownBy w2 r):w.grownBy w2 r :=
 ⟨b2.os.trans a2.os,b2.tape.trans a2.tape,b2.output.trans a2.output,Nat.le_trans a2.size b2.size,fun k hk hne=>(b2.block k (Nat.lt_of_lt_of_le hk a2.size) hne).trans (a2.block k hk hne)⟩
end
end
section
open Go.RowKit Go.Shelf
abbrev Jw(wk:World)(xb gO m:Nat)(r1 r2 y1 y2:Int)(w:World):Prop :=
 Below wk.heap.size wk w/\w.cell? ⟨xb,0,none⟩=some (.int .u64 r1)/\w.cell? ⟨xb,1,none⟩=some (.int .u64 r2)/\w.cell? ⟨gO,m*2,none⟩=some (.int .u64 y1)/\w.cell? ⟨gO,m*2+1,none⟩=some (.int .u64 y2)
theorem R9{w w':World}{g i:Nat}{v:Value}(hb:Below w.heap.size w w')(h:w.cell? ⟨g,i,none⟩=some v):w'.cell? ⟨g,i,none⟩=some v:=by
 exact (hb.cell (p:=⟨g,i,none⟩) (Zv h)).trans h
theorem ku{wk w0 w':World}{xb gO m:Nat}{r1 r2 y1 y2:Int}(hb:Below w0.heap.size w0 w')(h:Jw wk xb gO m r1 r2 y1 y2 w0):Jw wk xb gO m r1 r2 y1 y2 w' :=
 ⟨Z9 h.1 hb,R9 hb h.2.1,R9 hb h.2.2.1,R9 hb h.2.2.2.1,R9 hb h.2.2.2.2⟩
theorem iC{wk w0:World}{xb gO m:Nat}{r1 r2 y1 y2:Int}(h:Jw wk xb gO m r1 r2 y1 y2 w0):Jw wk xb gO m r1 r2 y1 y2 w0.drew :=
 ku (ZU (Below.refl _ _)) h
theorem jf(l:List (Int × Int))(hcl:∀ r∈l,Qw r)(hn:l.length<=4096)(A:Option Addr)(c:Nat)(w:World)(hs:Sl w w.heap.size A (ZA l)):
 Calls prog 160 #[.slice A l.length c] w fun e w'=>∃ v,e=.returned v/\w'.ownsRow w.heap.size 148 2 v l.length (ZA (Yi Zm l))/\Below w.heap.size w w':=by
 have HS:=hide hs;have OE:=hide hcl;clear hs hcl;go_enter func160,ntmps160;go_wp2
 go_loopw [3,4] (fun o i wr=>∃ k:Nat,k<=l.length/\i=.int .i64 k/\wr.ownsRow w.heap.size 148 2 o k (ZA (Yi Zm (l.take k)))/\Below w.heap.size w wr)
  (fun _ i _=>l.length - (intOf i).toNat)
 case atStart=>exact ⟨0,Nat.zero_le _,rfl,World.ownsRow_nil _ _ _ _,Below.refl _ _⟩
 case round =>
  obtain ⟨k,hk,rfl,ZL,hbr⟩:=hrel;obtain ⟨OA,oc,rfl,hoc⟩:=Zl ZL
  by_cases hlt:k<l.length
  · have Sv:(k:Int)<(l.length:Int):=(by omega);obtain ⟨r,hr⟩:∃ r,l[k]?=some r:=⟨_,List.getElem?_eq_getElem hlt⟩;have hrc:=OE.out r (List.mem_of_getElem? hr);obtain ⟨b,off,rfl,hb,c0,c1⟩:=(HS.out.below hbr).Gl hr;have qx:Hid (Yi Zm (l.take (k+1))=ins Zm r (Yi Zm (l.take k))):=hide (by rw [List.take_add_one,hr];exact CX Zm _ _);have HOL:Hid ((Yi Zm (l.take k)).length=k):=hide (by rw [Vf,List.length_take];omega);have HOC:Hid (∀ y∈Yi Zm (l.take k),Qw y):=hide fun y hy=>OE.out y (List.mem_of_mem_take ((Xe Zm _).mem_iff.1 hy));obtain ⟨O,hO⟩:=eE (Yi Zm (l.take k));rw [<- hO] at ZL qx HOL HOC;have HRC:=hide hrc;have qg:=hide (IG r hrc wr);obtain ⟨r1,r2⟩:=r;dsimp only at qg c0 c1;clear hr hrc hO;have hk4:k<=4096:=(by omega);go_wp2_with fail;refine qg.out.mono ?_;rintro e w1 ⟨rfl,hb1⟩;obtain ⟨xb,hxb⟩:=eE w1.heap.size;obtain ⟨w2,hw2⟩:=eE (w1.alloc (.cells #[.int .u64 r1,.int .u64 r2] 148));have hb2:=bE hw2;have HXB:Hid (Z6 w2 xb 148 #[.int .u64 r1,.int .u64 r2]):=hide (by rw [hw2,hxb];exact Z6.new _ _ _);have YN:=ZH ZL hb1;have qC:Hid ((Value.slice OA k oc).ownBlock≠some xb):=hide fun e=>by have:=TN YN e;omega
    have HOWN:=hide (ZH YN hb2);have Bg:=hide (Z9 (Z9 hbr hb1) hb2);have HXE:=hide hxb;clear ZL YN hb1 hb2 hbr hxb c0 c1 qg;go_wp2;rw [<- hw2,<- HXE.out];clear hw2
    go_loopw [6] (fun t wr2=>∃ m:Nat,m<=k/\t=.int .i64 m/\(∀ i y,i<m->O[i]?=some y->Zm y<=Zm (r1,r2))/\Below w2.heap.size w2 wr2)
     (fun t _=>k - (intOf t).toNat)
    case atStart=>exact ⟨0,Nat.zero_le _,rfl,fun i y h=>by omega,Below.refl _ _⟩
    case round =>
     obtain ⟨m,hm,rfl,hlo,hbx⟩:=hrel
     by_cases hmk:m<k
     · have zpn:(m:Int)<(k:Int):=(by omega);have hd:decide ((m:Int)<(k:Int))=true:=decide_eq_true zpn;obtain ⟨y,hy⟩:∃ y,O[m]?=some y:=⟨_,List.getElem?_eq_getElem (by rw [HOL.out];exact hmk)⟩;have ko:=HOC.out y (List.mem_of_getElem? hy);have hX:=HXB.out.step hbx;have x0:wr.cell? ⟨xb,0,none⟩=some (.int .u64 r1):=hX.q0 rfl;have x1:wr.cell? ⟨xb,1,none⟩=some (.int .u64 r2):=hX.q1 rfl;have tN:=ZH HOWN.out hbx;obtain ⟨gO,zlm,hv,hgO,hgl⟩:=tN.form (by omega);cases hv;obtain ⟨y0,y1⟩:=Nc tN HOL.out hy;have qQ:=hide (fun wk=>jd (r1,r2) y HRC.out ko wk);have hH:Jw wr xb gO m r1 r2 y.1 y.2 wr:=⟨Below.refl _ _,x0,x1,y0,y1⟩;obtain ⟨B,hB⟩:=eE (decide (Zm (r1,r2)<Zm y));rw [<- hB] at qQ;have NH:=hide hB;have HY:=hide hy;have aF:=hide hlo;have Em:=hide hbx;obtain ⟨ya,yb⟩:=y;dsimp only at qQ hH;have zms:(0:Int)<=(m:Int):=(by omega);clear hX x0 x1 y0 y1 tN hgO hgl hB hy hlo hbx ko;go_wp2
       go_region_held3 (fun w'=>Below wr.heap.size wr w'/\w'.cell? ⟨xb,0,none⟩=some (.int .u64 r1)/\w'.cell? ⟨xb,1,none⟩=some (.int .u64 r2)/\w'.cell? ⟨gO,m*2,none⟩=some (.int .u64 ya)/\w'.cell? ⟨gO,m*2+1,none⟩=some (.int .u64 yb))
        (first|exact ku (by assumption) (by assumption)|exact iC (by assumption))
        (first|(go_at_call 224;refine (qQ.out _).mono ?_;rintro e w' ⟨rfl,hb'⟩))
       have hbx:Below w2.heap.size w2 w':=Z9 Em.out (And.left (by assumption:Jw wr xb gO m r1 r2 ya yb w'));cases B with
       | false =>
         have hle:Zm (ya,yb)<=Zm (r1,r2):=(by have:=NH.out;simp at this;exact this);clear qQ hH;go_wp2;go_roundw
         case rel =>
          refine ⟨m+1,by omega,by go_num,fun i z hi hz=>?_,hbx⟩
          by_cases him:i<m
          · exact aF.out i z him hz
          · obtain rfl:i=m:=(by omega);rw [HY.out] at hz;cases hz;exact hle
         case measure=>simp [intOf];omega
       | true =>
         have hHI:∀ z,O[m]?=some z->Zm (r1,r2)<Zm z:=fun z hz=>by
          rw [HY.out] at hz;cases hz;have:=NH.out;simp at this;exact this
         have HLO:=aF;clear qQ hH aF NH HY Em hb';obtain ⟨i0,hi,hi0,hi1,hi2⟩:=info_parts Un;have hbz:=Z7 (Below.refl w'.heap.size w') (.cells #[.int .u64 r1,.int .u64 r2] 148);have N6:=Z6.new w' 148 #[.int .u64 r1,.int .u64 r2];have l6:=HXB.out.step hbx;have XA:=l6.alloc (.cells #[.int .u64 r1,.int .u64 r2] 148);have wS:w'.cell? ⟨xb,0,none⟩=some (.int .u64 r1):=l6.q0 rfl;have wT:w'.cell? ⟨xb,1,none⟩=some (.int .u64 r2):=l6.q1 rfl;have V7:=ZH (ZH HOWN.out hbx) hbz;have hw':=Z9 (Z9 Bg.out hbx) hbz;obtain ⟨g7,Lg,w7,hrun,Yg,WL,sW,cu⟩:=run_append_lies (P:=prog) (w'.alloc (.cells #[.int .u64 r1,.int .u64 r2] 148)) 110 110 w.heap.size 148 i0 (.agg #[.int .u64 0,.int .u64 0]) 2 16 underlying110 hi hi0 hi1 hi2 rfl (by decide) _ k (ZA O) V7 ⟨w'.heap.size,0,none⟩ 1 1 [.int .u64 r1,.int .u64 r2] rfl (fun j u hu=>by rw [VW];exact N6.cell (by simpa using hu)) (by simp [Value.oneCell']) (by omega) (by unfold maxLen;omega) (by omega) hw'.size _ rfl;have hw7:Below w.heap.size w w7:=hw'.grown WL hw'.size (fun j hj=>ZG V7 hj);have X7:=XA.grown WL (fun e=>qC.out e.symm);have l8:w.heap.size<=g7/\g7≠xb:=by
          refine ⟨ZG Yg rfl,?_⟩;rcases sW with h|h
          · intro e;rw [e] at h;exact qC.out h
          · have:=XA.lt;omega
         have HO7:Hid (w7.ownsRow w.heap.size 148 2 (.slice (some ⟨g7,0,none⟩) (k+1) Lg) (k+1) (ZA (O.take k++(r1,r2)::O.drop k))):=hide (by
          rw [List.take_of_length_le (by rw [HOL.out];exact Nat.le_refl _),List.drop_of_length_le (by rw [HOL.out];exact Nat.le_refl _),Wm]
          exact Yg)
         have HX7:=hide X7;have aW:=hide hw7;have HG7:=hide l8;have hwk:IntKind.i64.wrap ((k:Int)+1 - 1)=(k:Int):=(by rw [IntKind.wrap_i64];omega);clear Yg WL N6 XA V7 hw' X7 hw7 l8 hbz l6 sW cu hi hi0 hi1 hi2;go_wp2_with (at_builtin;refine wpList_append_run (.tmp 34) (.tmp 36) 110 rfl rfl _ _ rfl rfl hrun ?_);clear hrun wS wT;go_wp2
         go_loopw [7] (fun t wr=>∃ (s:Nat) (X:Int × Int),m<=s/\s<=k/\t=.int .i64 s/\wr.ownsRow w.heap.size 148 2 (.slice (some ⟨g7,0,none⟩) (k+1) Lg) (k+1) (ZA (O.take s++X::O.drop s))/\w7.grownBy wr (some g7))
          (fun t _=>(intOf t).toNat)
         case atStart=>exact ⟨k,(r1,r2),by omega,Nat.le_refl _,rfl,HO7.out,World.grownBy.refl _ _⟩
         case round =>
          obtain ⟨s,⟨Xa,Xb⟩,hms,hsk,rfl,Zw,yK⟩:=hrel;have hll:(O.take s++(Xa,Xb)::O.drop s).length=k+1:=(by rw [List.length_append,List.length_cons,List.length_take,List.length_drop,HOL.out];omega);have hxs:(O.take s++(Xa,Xb)::O.drop s)[s]?=some (Xa,Xb):=by
           rw [List.getElem?_append_right (by rw [List.length_take,HOL.out];omega),List.length_take,HOL.out,Nat.min_eq_left hsk,Nat.sub_self];rfl
          obtain ⟨d0,d1⟩:=Nc Zw hll hxs;dsimp only at d0 d1;clear hxs
          by_cases hgt:m<s
          · have ztc:(m:Int)<(s:Int):=(by omega);obtain ⟨y,hy⟩:∃ y,O[s - 1]?=some y:=⟨_,List.getElem?_eq_getElem (by rw [HOL.out];omega)⟩;have hy2:(O.take s++(Xa,Xb)::O.drop s)[s - 1]?=some y:=by
             rw [List.getElem?_append_left (by rw [List.length_take,HOL.out];omega),List.getElem?_take,if_pos (by omega)];exact hy
            obtain ⟨c0,c1⟩:=Nc Zw hll hy2;have f0:=Zw.frozenAt (s*2);have f1:=Zw.frozenAt (s*2+1);obtain ⟨q1,q2⟩:=Jh Zw (j:=s) y;rw [Po (by rw [HOL.out];omega),D5 (by omega) hy] at q1;have hg3:=Sk yK q2;obtain ⟨y1,y2⟩:=y;dsimp only at *;obtain ⟨u,hu⟩:∃ u,s=u+1:=⟨s - 1,by omega⟩;subst hu;rw [Nat.add_sub_cancel] at *;have hs1:IntKind.i64.wrap (((u+1:Nat):Int) - 1)=(u:Int):=(by rw [IntKind.wrap_i64];omega);have mG:IntKind.i64.wrap ((u:Int)+1 - 1)=(u:Int):=(by rw [IntKind.wrap_i64];omega);have hs2:u<k+1:=(by omega);have hs3:u+1<k+1:=(by omega);have zmz:u<k:=(by omega);have hs4:(u:Int)<(k:Int)+1:=(by omega);have hs5:(u:Int)+1<(k:Int)+1:=(by omega);have zna:(u:Int)<(k:Int):=(by omega);have hs6:(0:Int)<=(u:Int):=(by omega);have hs7:(0:Int)<=(u:Int)+1:=(by omega);have yO:((u:Int)+1).toNat=u+1:=(by omega);clear hy hy2 hll;go_wp2;go_roundw
            case rel=>exact ⟨u,(y1,y2),by omega,by omega,by go_num,q1,hg3⟩
            case measure=>first|(simp [intOf];done)|(simp [intOf];omega)
          · obtain rfl:m=s:=(by omega);have ztc:¬ (m:Int)<(m:Int):=(by omega);have f0:=Zw.frozenAt (m*2);have f1:=Zw.frozenAt (m*2+1);obtain ⟨q1,q2⟩:=Jh Zw (j:=m) (r1,r2);rw [Po (by rw [HOL.out];omega),<- CW (key:=Zm) O m (r1,r2) (by rw [HOL.out];omega) HLO.out hHI,<- qx.out] at q1;have X3:=HX7.out.grown yK (fun e=>HG7.out.2 (by injection e with e;exact e.symm));have x0:wr.cell? ⟨xb,0,none⟩=some (.int .u64 r1):=X3.q0 rfl;have x1:wr.cell? ⟨xb,1,none⟩=some (.int .u64 r2):=X3.q1 rfl;have hfin:=aW.out.grown (Sk yK q2) aW.out.size (fun j hj=>by cases hj;exact HG7.out.1);have hs3:m<k+1:=(by omega);have hs5:(m:Int)<(k:Int)+1:=(by omega);clear X3;go_wp2;go_roundw
            case rel=>exact ⟨k+1,by omega,by go_num,q1,hfin⟩
            case measure=>simp [intOf];omega
     · obtain rfl:k=m:=(by omega);have hgi:¬ (k:Int)<(k:Int):=by omega
       have hHI:∀ z,O[k]?=some z->Zm (r1,r2)<Zm z:=fun z hz=>by
        have:=(List.getElem?_eq_some_iff.1 hz).1;have:=HOL.out;omega
       have HLO:=hide hlo;clear hlo;go_wp2
       go_quiet (fail)
       replace hbx:=Zh hbx nq;generalize wr.drewN nq=wq at *;obtain ⟨i0,hi,hi0,hi1,hi2⟩:=info_parts Un;have hbz:=Z7 (Below.refl wq.heap.size wq) (.cells #[.int .u64 r1,.int .u64 r2] 148);have N6:=Z6.new wq 148 #[.int .u64 r1,.int .u64 r2];have l6:=HXB.out.step hbx;have XA:=l6.alloc (.cells #[.int .u64 r1,.int .u64 r2] 148);have wS:wq.cell? ⟨xb,0,none⟩=some (.int .u64 r1):=l6.q0 rfl;have wT:wq.cell? ⟨xb,1,none⟩=some (.int .u64 r2):=l6.q1 rfl;have V7:=ZH (ZH HOWN.out hbx) hbz;have hwq:=Z9 (Z9 Bg.out hbx) hbz;obtain ⟨g7,Lg,w7,hrun,Yg,WL,sW,cu⟩:=run_append_lies (P:=prog) (wq.alloc (.cells #[.int .u64 r1,.int .u64 r2] 148)) 110 110 w.heap.size 148 i0 (.agg #[.int .u64 0,.int .u64 0]) 2 16 underlying110 hi hi0 hi1 hi2 rfl (by decide) _ k (ZA O) V7 ⟨wq.heap.size,0,none⟩ 1 1 [.int .u64 r1,.int .u64 r2] rfl (fun j u hu=>by rw [VW];exact N6.cell (by simpa using hu)) (by simp [Value.oneCell']) (by omega) (by unfold maxLen;omega) (by omega) hwq.size _ rfl;have hw7:Below w.heap.size w w7:=hwq.grown WL hwq.size (fun j hj=>ZG V7 hj);have X7:=XA.grown WL (fun e=>qC.out e.symm);have l8:w.heap.size<=g7/\g7≠xb:=by
        refine ⟨ZG Yg rfl,?_⟩;rcases sW with h|h
        · intro e;rw [e] at h;exact qC.out h
        · have:=XA.lt;omega
       have HO7:Hid (w7.ownsRow w.heap.size 148 2 (.slice (some ⟨g7,0,none⟩) (k+1) Lg) (k+1) (ZA (O.take k++(r1,r2)::O.drop k))):=hide (by
        rw [List.take_of_length_le (by rw [HOL.out];exact Nat.le_refl _),List.drop_of_length_le (by rw [HOL.out];exact Nat.le_refl _),Wm]
        exact Yg)
       have HX7:=hide X7;have aW:=hide hw7;have HG7:=hide l8;have hwk:IntKind.i64.wrap ((k:Int)+1 - 1)=(k:Int):=(by rw [IntKind.wrap_i64];omega);clear Yg WL N6 XA V7 hwq X7 hw7 l8 hbz l6 sW cu hi hi0 hi1 hi2;go_wp2_with (at_builtin;refine wpList_append_run (.tmp 34) (.tmp 36) 110 rfl rfl _ _ rfl rfl hrun ?_);clear hrun wS wT;go_wp2
       go_loopw [7] (fun t wr=>∃ (s:Nat) (X:Int × Int),k<=s/\s<=k/\t=.int .i64 s/\wr.ownsRow w.heap.size 148 2 (.slice (some ⟨g7,0,none⟩) (k+1) Lg) (k+1) (ZA (O.take s++X::O.drop s))/\w7.grownBy wr (some g7))
        (fun t _=>(intOf t).toNat)
       case atStart=>exact ⟨k,(r1,r2),by omega,Nat.le_refl _,rfl,HO7.out,World.grownBy.refl _ _⟩
       case round =>
        obtain ⟨s,⟨Xa,Xb⟩,hms,hsk,rfl,Zw,yK⟩:=hrel;have hll:(O.take s++(Xa,Xb)::O.drop s).length=k+1:=(by rw [List.length_append,List.length_cons,List.length_take,List.length_drop,HOL.out];omega);have hxs:(O.take s++(Xa,Xb)::O.drop s)[s]?=some (Xa,Xb):=by
         rw [List.getElem?_append_right (by rw [List.length_take,HOL.out];omega),List.length_take,HOL.out,Nat.min_eq_left hsk,Nat.sub_self];rfl
        obtain ⟨d0,d1⟩:=Nc Zw hll hxs;dsimp only at d0 d1;clear hxs
        by_cases hgt:k<s
        · exfalso;omega
        · obtain rfl:k=s:=(by omega);have ztc:¬ (k:Int)<(k:Int):=(by omega);have f0:=Zw.frozenAt (k*2);have f1:=Zw.frozenAt (k*2+1);obtain ⟨q1,q2⟩:=Jh Zw (j:=k) (r1,r2);rw [Po (by rw [HOL.out];omega),<- CW (key:=Zm) O k (r1,r2) (by rw [HOL.out];omega) HLO.out hHI,<- qx.out] at q1;have X3:=HX7.out.grown yK (fun e=>HG7.out.2 (by injection e with e;exact e.symm));have x0:wr.cell? ⟨xb,0,none⟩=some (.int .u64 r1):=X3.q0 rfl;have x1:wr.cell? ⟨xb,1,none⟩=some (.int .u64 r2):=X3.q1 rfl;have hfin:=aW.out.grown (Sk yK q2) aW.out.size (fun j hj=>by cases hj;exact HG7.out.1);have hs3:k<k+1:=(by omega);have hs5:(k:Int)<(k:Int)+1:=(by omega);clear X3;go_wp2;go_roundw
          case rel=>exact ⟨k+1,by omega,by go_num,q1,hfin⟩
          case measure=>simp [intOf];omega
  · obtain rfl:k=l.length:=(by omega);rw [List.take_length] at ZL;have Sv:¬ (l.length:Int)<(l.length:Int):=(by omega);go_wp2;go_ret;exact ⟨_,rfl,ZL,hbr⟩
end
end Go.Proofs.YthnenedoblncjaaGreatDoor