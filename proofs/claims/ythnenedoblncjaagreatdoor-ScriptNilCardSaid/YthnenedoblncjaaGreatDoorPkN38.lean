/- Batch BatchRun Handle ServeMath -/
import Derived.BigQuiet
import Derived.ChangeAlike
import Derived.Deep.AppendLies
import Derived.Deep.QuietTactic
import Derived.Deep.RegionLaw
import Derived.Lib.SliceRun
import Derived.Test.YthnenedoblncjaaGreatDoorPkN32
set_option maxRecDepth 1000000
set_option maxHeartbeats 8000000
namespace Go.Proofs.YthnenedoblncjaaGreatDoor
open Go.Proofs.Tryz
section
open Go.RowKit Go.Shelf
theorem ME(n:Nat):XH (n+1)=XH n++[(1,(n:Int),0)]:=by simp [XH,List.range_succ]
theorem U4(n:Nat):(XH n).length=n:=by simp [XH]
theorem J6(l:List (Int × Int))(r:Int × Int):U5 (l++[r])=U5 l+r.1.toNat:=by simp [U5]
theorem Us(gs:List Gr)(n:Nat):Y9 gs (n+1)=Y9 gs n++((8,(n:Int),0)::Zl gs):=by simp [Y9,List.range_succ]
theorem Ud(gs:List Gr):(Zl gs).length<=4160:=by
 unfold Zl;split
 · rename_i h
   have h1:=Wd 0 gs;have h2:gs.length<=64:=by
    unfold Zt at h;split at h
    · omega
    · rename_i h2;rw [List.length_map] at h2;omega
   omega
 · simp
theorem Xy(gs:List Gr)(n:Nat):(Y9 gs n).length<=4161*n:=by
 induction n with
 | zero=>simp [Y9]
 | succ n ih =>
   have:=Ud gs;rw [Us,List.length_append,List.length_cons];omega
theorem Cb{w:World}{B:Nat}{A:Option Addr}{l:List (Int × Int)}{k:Nat}{r:Int × Int}(h:Sl w B A (ZE l))(hk:l[k]?=some r):
 ∃ b off,A=some ⟨b,off,none⟩/\w.cell? ⟨b,off+k*2,none⟩=some (.int .u64 r.1)/\w.cell? ⟨b,off+k*2+1,none⟩=some (.int .u64 r.2):=by
 obtain ⟨b,off,hA,_,h0,h1⟩:=h.vI hk;exact ⟨b,off,hA,h0,h1⟩
theorem J7(P:Nat->Prop)(t:Option (Nat × Nat))(es:List Ev)(rs:List (Int × Int))(hcl:∀ r∈rs,Sb r)(hn:rs.length<=4096)(A:Option Addr)(c:Nat)(w:World)(hP:∀ k,P k->k<w.heap.size)(hs:Wx w P A (ZE rs))(ht:Tp w P t es)(hl:t=none\/es.length<=990000):
 Calls prog 207 #[.pointer (ZT t),.slice A rs.length c] w fun e w'=>e=.returned (.int .u64 (U5 rs:Int))/\Z9 P w w'/\Tp w' P t (es++XH rs.length):=by
 have HP:=hide hP;have HS:=hide hs;have HT:=hide ht;have Gf:=hide hcl;clear hP hs ht hcl;go_enter func207,ntmps207;go_wp2
 go_loopw [5,10] (fun u i wr=>∃ k:Nat,k<=rs.length/\i=.int .i64 k/\u=.int .u64 (U5 (rs.take k):Int)/\Z9 P w wr/\Tp wr P t (es++XH k))
  (fun _ i _=>rs.length - (intOf i).toNat)
 case atStart=>exact ⟨0,Nat.zero_le _,rfl,rfl,Z9.refl _ _,by simpa [XH] using HT.out⟩
 case round =>
  obtain ⟨k,hk,rfl,rfl,hkp,htp⟩:=hrel
  by_cases hlt:k<rs.length
  · have RZ:(k:Int)<(rs.length:Int):=(by omega);obtain ⟨r,hr⟩:∃ r,rs[k]?=some r:=⟨_,List.getElem?_eq_getElem hlt⟩;have hrc:=Gf.out r (List.mem_of_getElem? hr);have hu:=Lv hrc;have Qu:∀ j,P j->j<wr.heap.size:=fun j hj=>Nat.lt_of_lt_of_le (HP.out j hj) hkp.size;obtain ⟨b,off,rfl,c0,c1⟩:=Cb ((HS.out.kept hkp).sl Qu) hr;have hbit:r.1 % 2=r.1:=by
     rcases hrc with ⟨h,_⟩|h
     · rw [h];rfl
     · rw [h];rfl
    have JJ:=hide (fun wk=>Ou r.1 hu.1.1 hu.1.2 wk);rw [hbit] at JJ;have hcs:=J6 (rs.take k) r;have htk:rs.take (k+1)=rs.take k++[r]:=(by rw [List.take_add_one,hr];rfl);rw [<- htk] at hcs;have hle:=TH (rs.take k) (fun x hx=>Gf.out x (List.mem_of_mem_take hx));rw [List.length_take] at hle;have hr1:0<=r.1/\r.1<=1:=by
     rcases hrc with ⟨h,_⟩|h
     · rw [h];decide
     · rw [h];decide
    have hw:IntKind.u64.wrap ((U5 (rs.take k):Int)+r.1)=(U5 (rs.take (k+1)):Int):=(by rw [IntKind.wrap_u64,hcs];omega);obtain ⟨C0,hC0⟩:=eE (U5 (rs.take k));obtain ⟨C1,nY⟩:=eE (U5 (rs.take (k+1)));have Dw:=hide nY;rw [<- hC0] at hw;rw [<- nY] at hw;rw [<- hC0];obtain ⟨r1,r2⟩:=r;dsimp only at *;obtain ⟨xb,hxb⟩:=eE wr.heap.size;obtain ⟨w0,hw0⟩:=eE (wr.alloc (.cells #[.int .u64 r1,.int .u64 r2] 148));have hb0:=bE hw0;have X0:Z6 w0 xb 148 #[.int .u64 r1,.int .u64 r2]:=by rw [hw0,hxb];exact Z6.new _ _ _
    have xZ:∀ j,Also P xb j->j<w0.heap.size:=fun j hj=>by
     rcases hj with hj|hj
     · exact Nat.lt_of_lt_of_le (Qu j hj) hb0.size
     · subst hj;exact X0.lt
    have ht0:Tp w0 (Also P xb) t (es++XH k):=(htp.add (R:=Also P xb) fun j hj=>by
     rcases hj with hj|hj
     · exact .inl hj
     · exact .inr (by omega)).step hb0
    have Ww:=hide (Nr (Also P xb) t (es++XH k) 1 (k:Int) 0 w0 xZ ht0 (by rcases hl with h|h;exact .inl h;exact .inr (by rw [List.length_append,U4];omega)) (by unfold Zj;omega));have Ui:=hide (hkp.trans (Z9.of_below hb0 Qu));have HX0:=hide X0;have Ob:=hide (ME k);clear hrc hu hbit hcs htk hle hr1 hkp htp hC0 nY hr Qu xZ ht0 hb0 X0;go_wp2_with fail;rw [<- hw0,<- hxb];clear hw0 hxb;refine Ww.out.mono ?_;rintro e w1 ⟨rfl,hk1,_,ht1⟩;have X1:=HX0.out.kept hk1 (.inr rfl);have x0:=X1.q0 rfl;dsimp at x0;have yU:=hide (Ui.out.trans (hk1.mono fun j hj=>.inl hj));have HT1:=hide (ht1.mono (R:=P) fun j hj=>.inl hj);clear hk1 ht1 X1 c0 c1 Ww;go_wp2_with fail;refine (JJ.out _).mono ?_;rintro e w2 ⟨rfl,rfl⟩;go_wp2;go_roundw
    case rel=>exact ⟨k+1,by omega,by go_num,by rw [<- Dw.out],yU.out,by rw [Ob.out,<- List.append_assoc];exact HT1.out⟩
    case measure=>simp [intOf];omega
  · obtain rfl:k=rs.length:=(by omega);rw [List.take_of_length_le (Nat.le_refl _)];go_wp2;go_ret;exact ⟨rfl,hkp,htp⟩
theorem Iy(P:Nat->Prop)(t:Option (Nat × Nat))(es:List Ev)(gs:List Gr)(GA:Option Addr)(gc:Nat)(p:Pt)(hp:PJ p)(w:World)(hP:∀ k,P k->k<w.heap.size)(hg0:P 8)(hs:Wx w P GA (rgCells (gs.map (·.1))))(hgs:Jt w P gs)(hw:MW w)(ht:Tp w P t es)(hl:t=none\/es.length<=890000):
 Calls prog 197 #[.pointer (ZT t),.slice GA gs.length gc,.agg #[.int .i64 p.1,.int .i64 p.2]] w fun e w'=>e=.returned (.int .u64 (ZU (YA gs p)))/\Z9 P w w'/\Tp w' P t (es++Zl gs):=by
 rcases hl with rfl|hl
 · refine (Yg P none [] gs GA gc p hp w hP hg0 hs hgs hw trivial (by simp)).mono ?_;rintro e w' ⟨h1,h2,_⟩;exact ⟨h1,h2,trivial⟩
 · exact Yg P t es gs GA gc p hp w hP hg0 hs hgs hw ht hl
abbrev JM(b1 b2 b3 b4 b o:Nat)(ta:Option Addr)(V:Bool)(GA QA:Option Addr)(gn gc qn qc:Nat)(q1 q2 q3:Int)(w:World):Prop :=
 w.cell? ⟨b1,0,none⟩=some (.pointer ta)/\w.cell? ⟨b2,0,none⟩=some (.int .u64 (ZU V))/\w.cell? ⟨b3,0,none⟩=some (.slice GA gn gc)/\w.cell? ⟨b4,0,none⟩=some (.slice QA qn qc) /\
  w.cell? ⟨b,o,none⟩=some (.int .i64 q1)/\w.cell? ⟨b,o+1,none⟩=some (.int .i64 q2)/\w.cell? ⟨b,o+2,none⟩=some (.int .u64 q3)
theorem JM.keep{b1 b2 b3 b4 b o:Nat}{ta:Option Addr}{V:Bool}{GA QA:Option Addr}{gn gc qn qc:Nat}{q1 q2 q3:Int}{P:Nat->Prop}{w w':World}(h:JM b1 b2 b3 b4 b o ta V GA QA gn gc qn qc q1 q2 q3 w)(hk:Z9 P w w')(hb:P b1/\P b2/\P b3/\P b4/\P b):JM b1 b2 b3 b4 b o ta V GA QA gn gc qn qc q1 q2 q3 w':=by
 obtain ⟨h1,h2,h3,h4,h5,h6,h7⟩:=h;exact ⟨(hk.cell hb.1 _).trans h1,(hk.cell hb.2.1 _).trans h2,(hk.cell hb.2.2.1 _).trans h3,(hk.cell hb.2.2.2.1 _).trans h4,(hk.cell hb.2.2.2.2 _).trans h5,(hk.cell hb.2.2.2.2 _).trans h6,(hk.cell hb.2.2.2.2 _).trans h7⟩
theorem JM.vE{b1 b2 b3 b4 b o:Nat}{ta:Option Addr}{V:Bool}{GA QA:Option Addr}{gn gc qn qc:Nat}{q1 q2 q3:Int}{w w':World}(h:JM b1 b2 b3 b4 b o ta V GA QA gn gc qn qc q1 q2 q3 w)(hb:Below w.heap.size w w'):JM b1 b2 b3 b4 b o ta V GA QA gn gc qn qc q1 q2 q3 w':=by
 have on:∀ {b o:Nat} {v:Value},w.cell? ⟨b,o,none⟩=some v->w'.cell? ⟨b,o,none⟩=some v:=fun h=>(hb.cell (p:=⟨_,_,none⟩) (ZG h)).trans h;obtain ⟨h1,h2,h3,h4,h5,h6,h7⟩:=h;exact ⟨on h1,on h2,on h3,on h4,on h5,on h6,on h7⟩
theorem IC(a b:Bool):bits BinOp.and IntKind.u64 (ZU a) (ZU b)=ZU (a && b):=by cases a <;> cases b <;> decide
theorem Il (P:Nat->Prop) (t:Option (Nat × Nat)) (es:List Ev) (gs:List Gr) (GA:Option Addr) (gc:Nat) (qs:List ((Int × Int) × Int)) (QA:Option Addr) (qc:Nat) (V:Bool) (b1 b2 b3 b4:Nat) (i:Nat) (q:(Int × Int) × Int) (hq:qs[i]?=some q) (Em:PJ q.1) (Ig:Uk q.2) (w:World) (hP:∀ k,P k->k<w.heap.size) (hg0:P 8)
 (hb:P b1/\P b2/\P b3/\P b4) (h1:w.cell? ⟨b1,0,none⟩=some (.pointer (ZT t))) (h2:w.cell? ⟨b2,0,none⟩=some (.int .u64 (ZU V))) (h3:w.cell? ⟨b3,0,none⟩=some (.slice GA gs.length gc)) (h4:w.cell? ⟨b4,0,none⟩=some (.slice QA qs.length qc))
 (hs:Wx w P GA (rgCells (gs.map (·.1)))) (hgs:Jt w P gs) (JE:Wx w P QA (VK qs)) (hw:MW w) (ht:Tp w P t es) (hl:t=none\/es.length<=880000) :
 Calls prog 275 #[.int .i64 (i:Int),.pointer (some ⟨b1,0,none⟩),.pointer (some ⟨b2,0,none⟩),.pointer (some ⟨b3,0,none⟩),.pointer (some ⟨b4,0,none⟩)] w fun e w' =>
  e=.returned (.agg #[.int .u64 (if (V && YA gs q.1)=true then (1,q.2) else (0,0):Int × Int).1,.int .u64 (if (V && YA gs q.1)=true then (1,q.2) else (0,0):Int × Int).2])/\Z9 P w w'/\Tp w' P t (es++((8,(i:Int),0)::Zl gs)):=by
 obtain ⟨rb,hrb⟩:=eE w.heap.size;obtain ⟨w0,hw0⟩:=eE (w.alloc (.cells #[.int .u64 0,.int .u64 0] 148));have hb0:=bE hw0;have R0:Z6 w0 rb 148 #[.int .u64 0,.int .u64 0]:=by rw [hw0,hrb];exact Z6.new _ _ _
 have xZ:∀ j,Also P rb j->j<w0.heap.size:=fun j hj=>by
  rcases hj with hj|hj
  · exact Nat.lt_of_lt_of_le (hP j hj) hb0.size
  · subst hj;exact R0.lt
 have ht0:Tp w0 (Also P rb) t es:=(ht.add (R:=Also P rb) fun j hj=>by
  rcases hj with hj|hj
  · exact .inl hj
  · exact .inr (by omega)).step hb0
 have hk0:Z9 P w w0:=Z9.of_below hb0 hP;have hlt:i<qs.length:=(List.getElem?_eq_some_iff.1 hq).1;have RZ:(i:Int)<(qs.length:Int):=by omega
 have jf:∃ b off,QA=some ⟨b,off,none⟩/\P b/\w.cell? ⟨b,off+i*3,none⟩=some (.int .i64 q.1.1)/\w.cell? ⟨b,off+i*3+1,none⟩=some (.int .i64 q.1.2)/\w.cell? ⟨b,off+i*3+2,none⟩=some (.int .u64 q.2):=by
  obtain ⟨b,off,hA,_,e0,e1,e2⟩:=(JE.sl hP).qu hq;refine ⟨b,off,hA,?_,e0,e1,e2⟩;rcases JE with h|⟨b',off',hA',hb',_⟩
  · exfalso
    have hl:=Zm (fun q:(Int × Int) × Int=>[Value.int .i64 q.1.1,.int .i64 q.1.2,.int .u64 q.2]) 3 (fun _=>rfl) qs;have:(VK qs).length=0:=(by rw [h];rfl);unfold VK at this;omega
  · rw [hA] at hA';cases hA';exact hb'
 obtain ⟨b,off,rfl,hPb,e0,e1,e2⟩:=jf;have hS:JM b1 b2 b3 b4 b (off+i*3) (ZT t) V GA (some ⟨b,off,none⟩) gs.length gc qs.length qc q.1.1 q.1.2 q.2 w:=⟨h1,h2,h3,h4,e0,e1,e2⟩;have hbs:P b1/\P b2/\P b3/\P b4/\P b:=⟨hb.1,hb.2.1,hb.2.2.1,hb.2.2.2,hPb⟩;have hS0:=hS.keep hk0 hbs;have Ww:=hide (Nr (Also P rb) t es 8 (i:Int) 0 w0 xZ ht0 (by rcases hl with h|h;exact .inl h;exact .inr (by omega)) (by unfold Zj;omega))
 have mM:Hid (∀ wk,Z9 P w wk->(∀ j,Also P rb j->j<wk.heap.size)->Tp wk (Also P rb) t (es++[(8,(i:Int),0)])->Calls prog 197 #[.pointer (ZT t),.slice GA gs.length gc,.agg #[.int .i64 q.1.1,.int .i64 q.1.2]] wk fun e w'=>e=.returned (.int .u64 (ZU (YA gs q.1)))/\Z9 (Also P rb) wk w'/\Tp w' (Also P rb) t (es++[(8,(i:Int),0)]++Zl gs)) :=
  hide fun wk hk h0 h5=>Iy (Also P rb) t _ gs GA gc q.1 Em wk h0 (.inl hg0) ((hs.kept hk).mono fun j hj=>.inl hj) (fun g hg=>⟨(hgs g hg).1,((hgs g hg).2.1.kept hk).mono fun j hj=>.inl hj,(hgs g hg).2.2⟩) (hw.kept hk hg0) h5 (by rcases hl with h|h;exact .inl h;exact .inr (by rw [List.length_append];simp only [List.length_singleton];omega))
 obtain ⟨M,hM⟩:=eE (YA gs q.1);rw [<- hM] at mM ⊢;have hmb:=Yt (V && M);have Gf:=hide (fun wk=>VN (ZU (V && M)) q.2 hmb.1 hmb.2 Ig.1 Ig.2 wk);rw [Fh] at Gf;have hand:=IC V M;obtain ⟨R,hR⟩:∃ R:Int × Int,R=(if (V && M)=true then (1,q.2) else (0,0)):=⟨_,rfl⟩;rw [<- hR] at Gf ⊢;obtain ⟨mv,hmv⟩:=eE (ZU (V && M));rw [<- hmv] at Gf hand;obtain ⟨⟨q1,q2⟩,q3⟩:=q;obtain ⟨r1,r2⟩:=R;dsimp only at *;have Aa:¬ P rb:=fun h=>by have:=hP _ h;omega
 have Ui:=hide hk0;have N9:=hide hbs;have F4:=hide xZ;have Jy:=hide Aa;have yZ:=hide R0;have HB0:=hide hb0;clear hR hmv hM hmb hP hg0 hb h1 h2 h3 h4 hs hgs JE hw ht hl hb0 R0 xZ ht0 hk0 hbs Aa hq Em Ig hPb e0 e1 e2 hS;go_enter func275,ntmps275;have t1:=hS0.1;rw [hw0] at t1;go_wp2_with fail;rw [<- hw0,<- hrb];have rU:=hide hrb;clear hw0 hrb;refine Ww.out.mono ?_;rintro e w1 ⟨rfl,hk1,_,ht1⟩;have hS1:=hS0.keep hk1 ⟨.inl N9.out.1,.inl N9.out.2.1,.inl N9.out.2.2.1,.inl N9.out.2.2.2.1,.inl N9.out.2.2.2.2⟩;have sW:JM b1 b2 b3 b4 b (off+i*3) (ZT t) V GA (some ⟨b,off,none⟩) gs.length gc qs.length qc q1 q2 q3 w1.drew:=hS1;have HR1:=hide (yZ.out.kept hk1 (.inr rfl));have yU:=hide hk1;have Ct:=hide (Ui.out.trans (hk1.mono fun j hj=>.inl hj));have HT1:=hide ht1;have rG:=hide (mM.out w1.drew (Ct.out.trans (Z9.drew _ _)) (fun j hj=>Nat.lt_of_lt_of_le (F4.out j hj) hk1.size) ht1.drew)
 have Cr:Hid (∀ wa wb,JM b1 b2 b3 b4 b (off+i*3) (ZT t) V GA (some ⟨b,off,none⟩) gs.length gc qs.length qc q1 q2 q3 wa->Z9 (Also P rb) wa wb->JM b1 b2 b3 b4 b (off+i*3) (ZT t) V GA (some ⟨b,off,none⟩) gs.length gc qs.length qc q1 q2 q3 wb) :=
  hide fun wa wb h hk=>h.keep hk ⟨.inl N9.out.1,.inl N9.out.2.1,.inl N9.out.2.2.1,.inl N9.out.2.2.2.1,.inl N9.out.2.2.2.2⟩
 have rX:Hid (∀ wk,JM b1 b2 b3 b4 b (off+i*3) (ZT t) V GA (some ⟨b,off,none⟩) gs.length gc qs.length qc q1 q2 q3 wk->JM b1 b2 b3 b4 b (off+i*3) (ZT t) V GA (some ⟨b,off,none⟩) gs.length gc qs.length qc q1 q2 q3 ((wk.setCell ⟨rb,0,none⟩ (.int .u64 r1)).setCell ⟨rb,1,none⟩ (.int .u64 r2))) :=
  hide fun wk h=>h.keep ((Z9.setCell Jy.out _ _ _).trans (Z9.setCell Jy.out _ _ _)) N9.out
 clear hk1 ht1 t1 hS0 Ww mM;go_wp2_with fail
 go_region_held3 (fun w'=>w'.cell? ⟨b1,0,none⟩=some (.pointer (ZT t))/\w'.cell? ⟨b2,0,none⟩=some (.int .u64 (ZU V))/\w'.cell? ⟨b3,0,none⟩=some (.slice GA gs.length gc)/\w'.cell? ⟨b4,0,none⟩=some (.slice (some ⟨b,off,none⟩) qs.length qc) /\
  w'.cell? ⟨b,off+i*3,none⟩=some (.int .i64 q1)/\w'.cell? ⟨b,off+i*3+1,none⟩=some (.int .i64 q2)/\w'.cell? ⟨b,off+i*3+2,none⟩=some (.int .u64 q3))
  (first|with_reducible exact sW|with_reducible exact hS1|with_reducible assumption|with_reducible exact rX.out _ (by assumption)|exact Cr.out _ _ sW (by assumption)|exact Cr.out _ _ (by assumption) (by assumption)|exact JM.vE (by assumption) (by assumption))
  (first
    | (go_at_call 197;((with_reducible refine rG.out.mono ?_);rintro e w2 ⟨rfl,hk2,ht2⟩))
    | (go_at_call 276;((with_reducible refine (Gf.out _).mono ?_);rintro e w3 ⟨rfl,hb3⟩;have R3:=(HR1.out.drew.kept hk2 (.inr rfl)).step hb3;have z0:=R3.q0 rfl;have z1:=R3.q1 rfl;have f0:=R3.frozen 0;have f1:=R3.frozen 1)))
 all_goals
  have e0:=((R3.set 0 (.int .u64 r1)).set 1 (.int .u64 r2)).q0 rfl;have e1:=((R3.set 0 (.int .u64 r1)).set 1 (.int .u64 r2)).q1 rfl;have hp2:∀ j,P j->j<w2.heap.size:=fun j hj=>Nat.lt_of_lt_of_le (F4.out j (.inl hj)) (Nat.le_trans yU.out.size hk2.size)
  have kX:Z9 P w ((w3.setCell ⟨rb,0,none⟩ (.int .u64 r1)).setCell ⟨rb,1,none⟩ (.int .u64 r2)) :=
   (Ct.out.trans ((Z9.drew _ _).trans (hk2.mono fun j hj=>.inl hj))).trans ((Z9.of_below hb3 hp2).trans ((Z9.setCell Jy.out _ _ _).trans (Z9.setCell Jy.out _ _ _)))
  have lS:Tp ((w3.setCell ⟨rb,0,none⟩ (.int .u64 r1)).setCell ⟨rb,1,none⟩ (.int .u64 r2)) P t (es++((8,(i:Int),0)::Zl gs)):=by
   have h:=(((ht2.step hb3).set (.inr rfl) 0 (.int .u64 r1)).set (.inr rfl) 1 (.int .u64 r2)).mono (R:=P) fun j hj=>.inl hj;rw [List.append_assoc] at h;exact h
  have HF:=hide (And.intro kX lS);clear kX lS hk2 ht2 hb3 R3 z0 z1 f0 f1;go_wp2;refine bodyPost_ret (v:=.agg #[.int .u64 r1,.int .u64 r2]) (by simp [results,Tryz.results275,go_sem,e0,e1]) rfl ⟨rfl,HF.out⟩
theorem Ku{gs:List Gr}{qs:List ((Int × Int) × Int)}{k:Nat}{q:(Int × Int) × Int}(h:qs[k]?=some q):(ZB gs qs)[k]?=some (hrec gs q):=by
 unfold ZB;rw [List.getElem?_map,h];rfl
def WA(gs:List Gr)(qs:List ((Int × Int) × Int))(k:Nat):List (Int × Int):=(ZB gs qs).take k++List.replicate (qs.length - k) (0,0)
theorem KW(gs:List Gr)(qs:List ((Int × Int) × Int)):madeCells #[.int .u64 0,.int .u64 0] (qs.length*2)=VY (WA gs qs 0):=by
 refine QG (by rw [size_madeCells];simp [WA]) fun k r hk=>?_
 have hz:∀ i,i<qs.length*2->(madeCells #[.int .u64 0,.int .u64 0] (qs.length*2))[i]?=some (.int .u64 0):=fun i hi=>by
  have:i % 2=0\/i % 2=1:=by omega
  unfold madeCells;rw [Array.getElem?_map,Array.getElem?_range];rw [if_pos hi];rcases this with h|h <;> simp [h]
 unfold WA at hk;rw [List.take_zero,List.nil_append,Nat.sub_zero] at hk;obtain ⟨h1,h2⟩:=List.getElem?_eq_some_iff.1 hk;rw [List.length_replicate] at h1;rw [List.getElem_replicate] at h2;subst h2;exact ⟨hz _ (by omega),hz _ (by omega)⟩
theorem RG{gs:List Gr}{qs:List ((Int × Int) × Int)}{k:Nat}{r:Int × Int}(hk:k<qs.length)(h:(ZB gs qs)[k]?=some r):
 ((VY (WA gs qs k)).setIfInBounds (k*2) (.int .u64 r.1)).setIfInBounds (k*2+1) (.int .u64 r.2)=VY (WA gs qs (k+1)):=by
 have hl:(ZB gs qs).length=qs.length:=by unfold ZB;rw [List.length_map]
 have l1:∀ j,j<=qs.length->(WA gs qs j).length=qs.length:=fun j hj=>by unfold WA;rw [List.length_append,List.length_take,List.length_replicate,hl];omega
 have hsz:(VY (WA gs qs k)).size=qs.length*2:=by rw [Vf,l1 k (by omega)]
 refine QG (by simp only [Array.size_setIfInBounds];rw [hsz,l1 (k+1) (by omega)]) fun j x hj=>?_;simp only [Array.getElem?_setIfInBounds,Array.size_setIfInBounds,hsz];unfold WA at hj
 by_cases e:j=k
 · subst e;rw [List.getElem?_append_left (by rw [List.length_take,hl];omega),List.getElem?_take_of_lt (by omega),h] at hj;cases hj;exact ⟨by rw [if_neg (by omega),if_pos rfl,if_pos (by omega)],by rw [if_pos rfl,if_pos (by omega)]⟩
 · have hj2:(WA gs qs k)[j]?=some x:=by
    unfold WA
    by_cases hjk:j<k
    · rw [List.getElem?_append_left (by rw [List.length_take,hl];omega),List.getElem?_take_of_lt (by omega)] at hj;rw [List.getElem?_append_left (by rw [List.length_take,hl];omega),List.getElem?_take_of_lt (by omega)];exact hj
    · have t1:((ZB gs qs).take k).length=k:=(by rw [List.length_take,hl];omega);have t2:((ZB gs qs).take (k+1)).length=k+1:=(by rw [List.length_take,hl];omega);rw [List.getElem?_append_right (by omega),t2] at hj;rw [List.getElem?_append_right (by omega),t1];obtain ⟨h1,h2⟩:=List.getElem?_eq_some_iff.1 hj;rw [List.length_replicate] at h1;rw [List.getElem_replicate] at h2;rw [List.getElem?_replicate,if_pos (by omega),h2]
   have h2:=Ym hj2;exact ⟨by rw [if_neg (by omega),if_neg (by omega)];exact h2.1,by rw [if_neg (by omega),if_neg (by omega)];exact h2.2⟩
theorem FM(P:Nat->Prop)(t:Option (Nat × Nat))(es:List Ev)(gs:List Gr)(GA:Option Addr)(gc:Nat)(w:World)(hP:∀ k,P k->k<w.heap.size)(hg0:P 8)(hs:Wx w P GA (rgCells (gs.map (·.1))))(hgs:Jt w P gs)(hw:MW w)(ht:Tp w P t es)(hl:t=none\/es.length<=600000):
 Calls prog 195 #[.pointer (ZT t),.slice GA gs.length gc] w fun e w'=>e=.returned (.int .u64 (ZU (Zx gs)))/\Z9 P w w'/\Tp w' P t (es++ZK gs):=by
 rcases hl with rfl|hl
 · refine (XJ P none [] gs GA gc w hP hg0 hs hgs hw trivial (by simp)).mono ?_;rintro e w' ⟨h1,h2,_⟩;exact ⟨h1,h2,trivial⟩
 · exact XJ P t es gs GA gc w hP hg0 hs hgs hw ht hl
theorem Ox (P:Nat->Prop) (t:Option (Nat × Nat)) (es:List Ev) (gs:List Gr) (GA:Option Addr) (gc:Nat) (qs:List ((Int × Int) × Int)) (QA:Option Addr) (qc:Nat) (Em:∀ q∈qs,PJ q.1) (Ig:∀ q∈qs,Uk q.2) (dH:qs.length<=4096) (w:World) (hP:∀ k,P k->k<w.heap.size) (hg0:P 8)
 (hs:Wx w P GA (rgCells (gs.map (·.1)))) (hgs:Jt w P gs) (JE:Wx w P QA (VK qs)) (hw:MW w) (ht:Tp w P t es) (hl:t=none\/es.length+4161*qs.length<=600000) :
 Calls prog 206 #[.pointer (ZT t),.slice GA gs.length gc,.slice QA qs.length qc] w fun e w' =>
  ∃ b,e=.returned (.tuple #[.int .u64 (ZU (Zx gs)),.slice (some ⟨b,0,none⟩) qs.length qs.length])/\Z9 P w w'/\Tp w' (Also P b) t (es++ZK gs++Y9 gs qs.length)/\b<w'.heap.size/\Z6 w' b 148 (VY (ZB gs qs)):=by
 obtain ⟨tb,htb⟩:=eE w.heap.size;obtain ⟨w0,hw0⟩:=eE (((w.alloc (.cells #[.pointer (ZT t)] 193)).alloc (.cells #[.slice GA gs.length gc] 32)).alloc (.cells #[.slice QA qs.length qc] 33));have hb0:Below w.heap.size w w0:=by rw [hw0];exact ZY (ZY (bA) _) _
 have T0:Z6 w0 tb 193 #[.pointer (ZT t)]:=by rw [hw0,htb];exact ((Z6.new _ _ _).alloc _).alloc _
 have G0:Z6 w0 (tb+1) 32 #[.slice GA gs.length gc]:=by rw [hw0,htb];exact (Z6.new2 _ _ _ _).alloc _
 have Q0:Z6 w0 (tb+1+1) 33 #[.slice QA qs.length qc]:=by
  rw [hw0,htb];have h:=Z6.new ((w.alloc (.cells #[.pointer (ZT t)] 193)).alloc (.cells #[.slice GA gs.length gc] 32)) 33 #[.slice QA qs.length qc];simpa using h
 have hz0:w0.heap.size=tb+3:=by rw [hw0,htb];simp
 have hm:=XZ hP hb0;have hk0:Z9 P w w0:=Z9.of_below hb0 hP;have HV:=hide (FM (More P w w0) t es gs GA gc w0 hm (.inl hg0) ((hs.kept hk0).mono fun k h=>.inl h) (fun g hg=>⟨(hgs g hg).1,((hgs g hg).2.1.kept hk0).mono fun k h=>.inl h,(hgs g hg).2.2⟩) (hw.step hb0) (ht.more hb0) (by rcases hl with h|h;exact .inl h;exact .inr (by omega)));have FY:Hid (More P w w0 tb):=.inr ⟨by omega,T0.lt⟩;have pI:Hid (More P w w0 (tb+1)):=.inr ⟨by omega,G0.lt⟩;have pO:Hid (More P w w0 (tb+1+1)):=.inr ⟨by omega,Q0.lt⟩;have HP:=hide hP;have HG:=hide hg0;have HS:=hide hs;have JL:=hide hgs;have mY:=hide JE;have HW:=hide hw;have Ui:=hide hk0;have HM:=hide hm;have mX:=hide Em;have mZ:=hide Ig;have HZ0:=hide hz0;have t0:=T0.q0 rfl;have g0:=G0.q0 rfl;rw [hw0] at t0 g0;clear hP hg0 hs hgs JE hw ht hb0 hm hk0 Em Ig hz0;go_enter func206,ntmps206;go_wp2_with fail;rw [<- hw0,<- htb];have zf:=hide htb;clear htb;refine HV.out.mono ?_;rintro e w1 ⟨rfl,hk1,ht1⟩;obtain ⟨vb,hvb⟩:=eE w1.heap.size;obtain ⟨V,hV⟩:=eE (Zx gs);rw [<- hV];have hmk:=fun w=>Rp qs.length (by omega) w;obtain ⟨W2,hW2⟩:=eE ((w1.alloc (.cells #[.int .u64 (ZU V)] 44)).alloc (.cells (madeCells #[.int .u64 0,.int .u64 0] (qs.length*2)) 148));have hb2:=bF hW2;have V2:Z6 W2 vb 44 #[.int .u64 (ZU V)]:=by rw [hW2,hvb];exact (Z6.new _ _ _).alloc _
 have hz2:W2.heap.size=vb+2:=by rw [hW2,hvb];simp
 have O2:Z6 W2 (vb+1) 148 (VY (WA gs qs 0)):=by
  have h:Z6 W2 (vb+1) 148 (madeCells #[.int .u64 0,.int .u64 0] (qs.length*2)):=by rw [hW2,hvb];exact Z6.new2 _ _ _ _
  rw [KW] at h;exact h
 have T2:=(T0.kept hk1 FY.out).step hb2;have G2:=(G0.kept hk1 pI.out).step hb2;have Q2:=(Q0.kept hk1 pO.out).step hb2;have Ae:tb+3<=vb:=by have:=hk1.size;have:=HZ0.out;omega
 have hM2:∀ j,More P w w0 j->j<vb:=fun j hj=>by have:=HM.out j hj;have:=hk1.size;omega
 have sU:∀ j,Also (Also (More P w w0) vb) (vb+1) j->j<W2.heap.size:=fun j hj=>by
  rcases hj with (hj|hj)|hj
  · have:=hM2 j hj;omega
  · omega
  · omega
 have ht2:Tp W2 (Also (Also (More P w w0) vb) (vb+1)) t (es++ZK gs):=(ht1.add (R:=Also (Also (More P w w0) vb) (vb+1)) fun j hj=>by
  rcases hj with (hj|hj)|hj
  · exact .inl hj
  · exact .inr (by omega)
  · exact .inr (by omega)).step hb2
 have rA:=hide (Ui.out.trans ((hk1.mono fun j h=>.inl h).trans (Z9.of_below hb2 fun j hj=>Nat.lt_of_lt_of_le (hM2 j (.inl hj)) (by omega))));have HPQ:Hid (∀ j,P j->Also (Also (More P w w0) vb) (vb+1) j):=fun j hj=>.inl (.inl (.inl hj))
 have Ww:Hid (¬ Also (More P w w0) vb (vb+1)):=fun h=>by
  rcases h with h|h
  · have:=hM2 _ h;omega
  · omega
 have HIT:Hid (∀ (k:Nat) (wr:World),k<qs.length->Z9 (Also (More P w w0) vb) W2 wr->(∀ j,Also (Also (More P w w0) vb) (vb+1) j->j<wr.heap.size)->Z6 wr tb 193 #[.pointer (ZT t)]/\Z6 wr (tb+1) 32 #[.slice GA gs.length gc]/\Z6 wr (tb+1+1) 33 #[.slice QA qs.length qc]/\Z6 wr vb 44 #[.int .u64 (ZU V)] ->
  Tp wr (Also (Also (More P w w0) vb) (vb+1)) t (es++ZK gs++Y9 gs k)->∃ r:Int × Int,(ZB gs qs)[k]?=some r /\
  Calls prog 275 #[.int .i64 (k:Int),.pointer (some ⟨tb,0,none⟩),.pointer (some ⟨vb,0,none⟩),.pointer (some ⟨tb+1,0,none⟩),.pointer (some ⟨tb+1+1,0,none⟩)] wr fun e w' =>
   e=.returned (.agg #[.int .u64 r.1,.int .u64 r.2])/\Z9 (Also (Also (More P w w0) vb) (vb+1)) wr w'/\Tp w' (Also (Also (More P w w0) vb) (vb+1)) t (es++ZK gs++Y9 gs (k+1))):=hide fun k wr hk hkr Qu ⟨B1,B3,B4,B2⟩ htr=>by
  obtain ⟨q,hq⟩:∃ q,qs[k]?=some q:=⟨_,List.getElem?_eq_getElem hk⟩;have qd:Z9 P w wr:=rA.out.trans (hkr.mono fun j h=>.inl (.inl h));refine ⟨hrec gs q,Ku hq,?_⟩
  have h:=Il (Also (Also (More P w w0) vb) (vb+1)) t (es++ZK gs++Y9 gs k) gs GA gc qs QA qc V tb vb (tb+1) (tb+1+1) k q hq (mX.out q (List.mem_of_getElem? hq)) (mZ.out q (List.mem_of_getElem? hq)) wr Qu (HPQ.out _ HG.out)
   ⟨.inl (.inl FY.out),.inl (.inr rfl),.inl (.inl pI.out),.inl (.inl pO.out)⟩ (B1.cell rfl) (B2.cell rfl) (B3.cell rfl) (B4.cell rfl) ((HS.out.kept qd).mono HPQ.out) (fun g hg=>⟨(JL.out g hg).1,((JL.out g hg).2.1.kept qd).mono HPQ.out,(JL.out g hg).2.2⟩) ((mY.out.kept qd).mono HPQ.out) (HW.out.kept qd HG.out) htr (by
     rcases hl with h|h
     · exact .inl h
     · have h1:=Xy gs k;have h2:=YQ gs;have h3:4161*k<=4161*qs.length:=Nat.mul_le_mul_left _ (by omega)
       exact .inr (by rw [List.length_append,List.length_append];omega))
  refine h.mono ?_;rintro e w' ⟨he,hk',ht'⟩;refine ⟨?_,hk',?_⟩
  · rw [he,hV];rfl
  · rw [Us,<- List.append_assoc];exact ht'
 have q0:=((Q0.kept hk1 pO.out).alloc (.cells #[.int .u64 (ZU V)] 44)).q0 rfl;have q1:=Q2.q0 rfl;rw [hW2] at q1;have HT2:=hide T2;have HG2:=hide G2;have mW:=hide Q2;have sj:=hide V2;have fG:=hide O2;have ni:=hide ht2;have mV:=hide sU;have j3:=hide Ae;have HZ2:=hide hz2;have nA:=hide hV;have nD:=hide hW2;have dA:∀ (fn:Fn) (first cap:Array Value) (w:World),(Instr.makeFunc fn first cap).run prog w=.ok (.func fn first cap) w:=fun _ _ _ _=>rfl;clear T2 G2 Q2 V2 O2 ht2 sU Ae hz2 hV T0 G0 Q0 hk1 ht1 hM2 hb2 t0 g0 hw0 HV;go_wp2_with fail;rw [<- hvb,<- nD.out];clear hvb q0 q1 hmk
 go_loopw [21] (fun i wr=>∃ k:Nat,k<=qs.length/\i=.int .i64 k/\(Z6 wr tb 193 #[.pointer (ZT t)]/\Z6 wr (tb+1) 32 #[.slice GA gs.length gc]/\Z6 wr (tb+1+1) 33 #[.slice QA qs.length qc]/\Z6 wr vb 44 #[.int .u64 (ZU V)])/\Z6 wr (vb+1) 148 (VY (WA gs qs k))/\Z9 (Also (More P w w0) vb) W2 wr/\Tp wr (Also (Also (More P w w0) vb) (vb+1)) t (es++ZK gs++Y9 gs k))
  (fun i _=>qs.length - (intOf i).toNat)
 case atStart=>exact ⟨0,Nat.zero_le _,rfl,⟨HT2.out,HG2.out,mW.out,sj.out⟩,fG.out,Z9.refl _ _,by simpa [Y9] using ni.out⟩
 case round =>
  obtain ⟨k,hk,rfl,sO,hO,hkr,htr⟩:=hrel;have Qu:∀ j,Also (Also (More P w w0) vb) (vb+1) j->j<wr.heap.size:=fun j hj=>Nat.lt_of_lt_of_le (mV.out j hj) hkr.size
  by_cases hlt:k<qs.length
  · obtain ⟨r,hr,hC⟩:=HIT.out k wr hlt hkr Qu sO htr;have RZ:(k:Int)<(qs.length:Int):=(by omega);have HC:=hide hC;have HST:=hide (RG hlt hr);have hsz:(VY (WA gs qs k)).size=qs.length*2:=by
     have:=congrArg Array.size (RG hlt hr);simp only [Array.size_setIfInBounds] at this;rw [this,Vf];unfold WA;rw [List.length_append,List.length_take,List.length_replicate];have hl:(ZB gs qs).length=qs.length:=(by unfold ZB;rw [List.length_map]);omega
    have Sg:=hide hsz;have N9:=hide sO;have HO:=hide hO;have Cu:=hide hkr;clear hC hr hsz sO hO hkr htr Qu;go_wp2_with fail;refine HC.out.mono ?_;rintro e w3 ⟨rfl,hk3,ht3⟩;have B3:=HO.out.kept hk3 (.inr rfl);have c0:=B3.cell (i:=k*2) (Array.getElem?_eq_getElem (by rw [Sg.out];omega));have c1:=B3.cell (i:=k*2+1) (Array.getElem?_eq_getElem (by rw [Sg.out];omega));have f0:=B3.frozen (k*2);have f1:=B3.frozen (k*2+1);have HB3:=hide B3;have Lh:=hide hk3;have HT3:=hide ht3
    have kb:∀ {g t cs},Also (More P w w0) vb g->Z6 wr g t cs->Z6 ((w3.setCell ⟨vb+1,k*2,none⟩ (.int .u64 r.1)).setCell ⟨vb+1,k*2+1,none⟩ (.int .u64 r.2)) g t cs:=fun {g t cs} hg hB=>by
     have hne:g≠vb+1:=fun e=>Ww.out (e ▸ hg);exact ((hB.kept Lh.out (.inl hg)).far (p:=⟨vb+1,k*2,none⟩) hne _).far (p:=⟨vb+1,k*2+1,none⟩) hne _
    have tN:Z6 ((w3.setCell ⟨vb+1,k*2,none⟩ (.int .u64 r.1)).setCell ⟨vb+1,k*2+1,none⟩ (.int .u64 r.2)) tb 193 #[.pointer (ZT t)]/\Z6 ((w3.setCell ⟨vb+1,k*2,none⟩ (.int .u64 r.1)).setCell ⟨vb+1,k*2+1,none⟩ (.int .u64 r.2)) (tb+1) 32 #[.slice GA gs.length gc]/\Z6 ((w3.setCell ⟨vb+1,k*2,none⟩ (.int .u64 r.1)).setCell ⟨vb+1,k*2+1,none⟩ (.int .u64 r.2)) (tb+1+1) 33 #[.slice QA qs.length qc]/\Z6 ((w3.setCell ⟨vb+1,k*2,none⟩ (.int .u64 r.1)).setCell ⟨vb+1,k*2+1,none⟩ (.int .u64 r.2)) vb 44 #[.int .u64 (ZU V)] :=
     ⟨kb (.inl FY.out) N9.out.1,kb (.inl pI.out) N9.out.2.1,kb (.inl pO.out) N9.out.2.2.1,kb (.inr rfl) N9.out.2.2.2⟩
    have hO2:Z6 ((w3.setCell ⟨vb+1,k*2,none⟩ (.int .u64 r.1)).setCell ⟨vb+1,k*2+1,none⟩ (.int .u64 r.2)) (vb+1) 148 (VY (WA gs qs (k+1))):=by
     have h:=(HB3.out.set (k*2) (.int .u64 r.1)).set (k*2+1) (.int .u64 r.2);rw [HST.out] at h;exact h
    have hk2:Z9 (Also (More P w w0) vb) W2 ((w3.setCell ⟨vb+1,k*2,none⟩ (.int .u64 r.1)).setCell ⟨vb+1,k*2+1,none⟩ (.int .u64 r.2)):=(Cu.out.trans (Lh.out.mono fun j hj=>.inl hj)).trans ((Z9.setCell Ww.out _ _ _).trans (Z9.setCell Ww.out _ _ _));have ht2:Tp ((w3.setCell ⟨vb+1,k*2,none⟩ (.int .u64 r.1)).setCell ⟨vb+1,k*2+1,none⟩ (.int .u64 r.2)) (Also (Also (More P w w0) vb) (vb+1)) t (es++ZK gs++Y9 gs (k+1)):=(HT3.out.set (.inr rfl) _ _).set (.inr rfl) _ _;have Xt:=hide (And.intro tN (And.intro hO2 (And.intro hk2 ht2)));clear kb tN hO2 hk2 ht2 B3 hk3 ht3;go_wp2;go_roundw
    case rel=>exact ⟨k+1,by omega,by go_num,Xt.out⟩
    case measure=>simp [intOf];omega
  · obtain rfl:k=qs.length:=(by omega);have v0:=sO.2.2.2.q0 rfl;have hrow:WA gs qs qs.length=ZB gs qs:=by
     have hl:(ZB gs qs).length=qs.length:=(by unfold ZB;rw [List.length_map]);unfold WA;rw [Nat.sub_self,List.replicate_zero,List.append_nil,List.take_of_length_le (by omega)]
    rw [hrow] at hO
    have HF:=hide (show Z9 P w wr/\Tp wr (Also P (vb+1)) t (es++ZK gs++Y9 gs qs.length)/\vb+1<wr.heap.size/\Z6 wr (vb+1) 148 (VY (ZB gs qs)) from
     ⟨rA.out.trans (hkr.mono fun j h=>.inl (.inl h)),htr.mono fun j hj=>by
       rcases hj with hj|hj
       · exact HPQ.out j hj
       · exact .inr hj,hO.lt,hO⟩)
    clear sO hO hkr htr Qu hrow;go_wp2;go_ret2;exact ⟨vb+1,by rw [<- nA.out];rfl,HF.out⟩
theorem Mr(gs:List Gr)(GA:Option Addr)(gc:Nat)(n:Nat)(w:World)(hs:Sl w w.heap.size GA (rgCells (gs.map (·.1)))):
 Calls prog 205 #[.slice GA gs.length gc,.int .i64 (n:Int)] w fun e w'=>e=.returned (.int .i64 (Y3 gs n))/\Below w.heap.size w w':=by
 have JK:=Vo (gs.map (·.1)) GA gc w hs;rw [List.length_map] at JK;have HC:=hide JK;obtain ⟨F,hF⟩:=eE (Zt (gs.map (·.1)));have HB:Hid (Y3 gs n=if F≠0 then F else if n<1\/4096<n then 6 else 0):=by rw [hF];exact rfl
 rw [<- hF] at HC;clear JK hF hs
 by_cases h0:F=0
 · by_cases h1:(n:Int)<1
   · have hr:Y3 gs n=6:=(by rw [HB.out,if_neg (by simpa using h0),if_pos (by omega)]);rw [hr];subst h0;clear hr HB;go_enter func205,ntmps205;go_wp2_with fail;refine HC.out.mono ?_;rintro e w' ⟨rfl,hb⟩;go_wp2;go_ret;exact ⟨rfl,hb⟩
   · by_cases h2:(4096:Int)<(n:Int)
     · have hr:Y3 gs n=6:=(by rw [HB.out,if_neg (by simpa using h0),if_pos (by omega)]);rw [hr];subst h0;clear hr HB;go_enter func205,ntmps205;go_wp2_with fail;refine HC.out.mono ?_;rintro e w' ⟨rfl,hb⟩;go_wp2;go_ret;exact ⟨rfl,hb⟩
     · have hr:Y3 gs n=0:=(by rw [HB.out,if_neg (by simpa using h0),if_neg (by omega)]);rw [hr];subst h0;clear hr HB;go_enter func205,ntmps205;go_wp2_with fail;refine HC.out.mono ?_;rintro e w' ⟨rfl,hb⟩;go_wp2;go_ret;exact ⟨rfl,hb⟩
 · have hr:Y3 gs n=F:=(by rw [HB.out,if_pos h0]);rw [hr];clear hr HB;go_enter func205,ntmps205;go_wp2_with fail;refine HC.out.mono ?_;rintro e w' ⟨rfl,hb⟩;go_wp2;go_ret;exact ⟨rfl,hb⟩
theorem Tk {fn:Func} {p u:Tmp} {tmps:Array Value} {w:World} {g:Nat} {v0 v1 v2:Value} (h:fn.results=#[.cell p 175,.tmp u])
 (hp:tmps.getD p undef=.pointer (some ⟨g,0,none⟩)) (hb:Z6 w g 175 #[v0,v1,v2]) :
 (results fn tmps).run prog w=.ok (.tuple #[.agg #[v0,v1,v2],tmps.getD u undef]) w:=by
 have c0:=hb.q0 rfl;have c1:=hb.q1 rfl;have c2:=hb.q2 rfl;have hp':tmps[p]?.getD undef=.pointer (some ⟨g,0,none⟩):=by rw [<- hp];simp
 simp [results,h,hp',go_sem,c0,c1,c2]
def lW(P:Nat->Prop)(t:Option (Nat × Nat))(es':List Ev)(r:xL × Int)(w:World)(e:Ending)(w':World):Prop :=
 ∃ A c,r.1.recs.length<=c/\e=.returned (.tuple #[.agg #[.int .i64 r.1.val,.int .i64 r.1.cnt,.slice A r.1.recs.length c],.int .i64 r.2])/\Z9 P w w'/\Tp w' P t es'/\Sl w' w'.heap.size A (ZE r.1.recs)
theorem Sl.TT{w:World}{g:Nat}{xs:List Value}{b o:Nat}(h:Sl w w.heap.size (some ⟨g,0,none⟩) xs)(hne:g≠b)(u:Value):Sl (w.setCell ⟨b,o,none⟩ u) (w.setCell ⟨b,o,none⟩ u).heap.size (some ⟨g,0,none⟩) xs :=
 (h.far (p:=⟨b,o,none⟩) (fun _ x hx=>by cases hx;exact hne) u).more (by simp)
theorem I9 (P:Nat->Prop) (t:Option (Nat × Nat)) (es:List Ev) (gs:List Gr) (GA:Option Addr) (gc:Nat) (qs:List ((Int × Int) × Int)) (QA:Option Addr) (qc:Nat) (Em:∀ q∈qs,PJ q.1) (Ig:∀ q∈qs,Uk q.2) (w:World) (hP:∀ k,P k->k<w.heap.size) (hg0:P 8)
 (hs:Wx w P GA (rgCells (gs.map (·.1)))) (hgs:Jt w P gs) (JE:Wx w P QA (VK qs)) (hw:MW w) (ht:Tp w P t es) (hl:t=none\/es.length+4161*qs.length+(Y5 (lg qs.length)).length<=600000) :
 Calls prog 147 #[.pointer (ZT t),.slice GA gs.length gc,.slice QA qs.length qc] w (lW P t (es++UY gs qs.length) (Yi gs qs) w):=by
 obtain ⟨rb,hrb⟩:=eE w.heap.size;obtain ⟨w0,hw0⟩:=eE (w.alloc (.cells #[.int .i64 0,.int .i64 0,.slice none 0 0] 175));have hb0:=bE hw0;have R0:Z6 w0 rb 175 #[.int .i64 0,.int .i64 0,.slice none 0 0]:=by rw [hw0,hrb];exact Z6.new _ _ _
 have Aa:¬ P rb:=fun h=>by have:=hP _ h;omega
 have HC:=hide (Mr gs GA gc qs.length w0 (((hs.sl hP).below hb0).more hb0.size))
 by_cases hc:Y3 gs qs.length=0
 · have hn:1<=qs.length/\qs.length<=4096:=by
    unfold Y3 at hc;split at hc
    · rename_i h;exact absurd hc h
    · split at hc
      · cases hc
      · omega
   have hv:Yi gs qs=(⟨bif Zx gs then 1 else 0,U5 (ZB gs qs),WH ZC (ZB gs qs)⟩,0):=(by unfold Yi;rw [if_neg (by simpa using hc)]);have he:UY gs qs.length=ZK gs++Y9 gs qs.length++XH qs.length++YT (Y5 (lg qs.length)):=(by unfold UY;rw [if_neg (by simpa using hc)]);rw [hv,he];rw [hc] at HC;have hrl:(ZB gs qs).length=qs.length:=(by unfold ZB;rw [List.length_map]);have yQ:=hide (Rm gs Ig);have HP:=hide hP;have HG:=hide hg0;have HS:=hide hs;have JL:=hide hgs;have mY:=hide JE;have HW:=hide hw;have HT:=hide ht;have mX:=hide Em;have mZ:=hide Ig;have F5:=hide hrl;have HN:=hide hn;have HB0:=hide hb0;have yZ:=hide R0;have Jy:=hide Aa;have HL:=hide hl;clear hv he hc hrl hP hg0 hs hgs JE hw ht Em Ig hn hb0 R0 Aa hl;go_enter func147,ntmps147;go_wp2_with fail;rw [<- hw0,<- hrb];have rU:=hide hrb;clear hw0 hrb;refine HC.out.mono ?_;rintro e w1 ⟨rfl,hb1⟩;have hB1:=Z8 HB0.out hb1;have oK:=rU.out;have R1:=yZ.out.step hb1;have hK1:Z9 P w w1:=Z9.of_below hB1 HP.out
   have hP1:∀ j,Also P rb j->j<w1.heap.size:=fun j hj=>by
    rcases hj with hj|hj
    · exact Nat.lt_of_lt_of_le (HP.out j hj) hK1.size
    · subst hj;exact R1.lt
   have ht1:Tp w1 (Also P rb) t es:=(HT.out.add (R:=Also P rb) fun j hj=>by
    rcases hj with hj|hj
    · exact .inl hj
    · exact .inr (by omega)).step hB1
   have jD:=hide (Ox (Also P rb) t es gs GA gc qs QA qc mX.out mZ.out HN.out.2 w1 hP1 (.inl HG.out) ((HS.out.kept hK1).mono fun j h=>.inl h) (fun g hg=>⟨(JL.out g hg).1,((JL.out g hg).2.1.kept hK1).mono fun j h=>.inl h,(JL.out g hg).2.2⟩) ((mY.out.kept hK1).mono fun j h=>.inl h) (HW.out.kept hK1 HG.out) ht1 (by rcases HL.out with h|h;exact .inl h;exact .inr (by omega)));have yU:=hide hK1;have HR1:=hide R1;have rJ:=hide hP1;clear hb1 hB1 hK1 hP1 ht1 R1 HC oK;go_wp2_with fail;refine jD.out.mono ?_;rintro e w2 ⟨b,rfl,hk2,ht2,hbl,hB2⟩;have R2:=HR1.out.kept hk2 (.inr rfl)
   have hP2:∀ j,Also (Also P rb) b j->j<w2.heap.size:=fun j hj=>by
    rcases hj with hj|hj
    · exact Nat.lt_of_lt_of_le (rJ.out j hj) hk2.size
    · subst hj;exact hbl
   have hs2:Wx w2 (Also (Also P rb) b) (some ⟨b,0,none⟩) (ZE (ZB gs qs)):=.inr ⟨b,0,rfl,.inr rfl,fun j u hu=>by
    rw [Nat.zero_add]
    exact hB2.cell (by unfold VY;rw [List.getElem?_toArray];exact hu)⟩
   have Cq:=hide (J7 (Also (Also P rb) b) t (es++ZK gs++Y9 gs qs.length) (ZB gs qs) yQ.out (by rw [F5.out];exact HN.out.2) (some ⟨b,0,none⟩) qs.length w2 hP2 hs2 ht2 (by
    rcases HL.out with h|h
    · exact .inl h
    · have h1:=Xy gs qs.length;have h2:=YQ gs
      exact .inr (by rw [List.length_append,List.length_append];omega)))
   rw [F5.out] at Cq;obtain ⟨V,hV⟩:=eE (Zx gs);have JJ:=hide (fun wk=>Lr V wk);have nA:=hide hV;rw [<- hV];obtain ⟨vt,Ae⟩:∃ vt:Int,vt=(bif V then 1 else 0):=⟨_,rfl⟩;have hvb:0<=vt/\vt<=1:=(by rw [Ae];cases V <;> decide);rw [<- Ae] at JJ;have j3:=hide Ae;obtain ⟨C,hC⟩:=eE (U5 (ZB gs qs));have hcl:=TH _ yQ.out;rw [F5.out,<- hC] at hcl;rw [<- hC] at Cq;have dQ:=hide hC;have dD:=HN.out.2;have hw1:IntKind.i64.wrap vt=vt:=(by rw [IntKind.wrap_i64];omega);have hw2:IntKind.i64.wrap (C:Int)=(C:Int):=(by rw [IntKind.wrap_i64];omega);have HR2:=hide R2;have rD:=hide hk2;have fI:=hide hP2;have HS2:=hide hs2;have HB2:=hide hB2;clear hV Ae hC hk2 ht2 hbl hB2 R2 hP2 hs2 jD;go_wp2_with fail;refine (JJ.out _).mono ?_;rintro e w2' ⟨rfl,rfl⟩;go_wp2_with fail;refine Cq.out.mono ?_;rintro e w3 ⟨rfl,hk3,ht3⟩;obtain ⟨ab,hab⟩:=eE w3.heap.size;obtain ⟨w4,hw4⟩:=eE (w3.alloc (.cells #[.int .i64 vt,.int .i64 (C:Int),.slice none 0 0] 175));have hb4:=bE hw4;have A4:Z6 w4 ab 175 #[.int .i64 vt,.int .i64 (C:Int),.slice none 0 0]:=(by rw [hw4,hab];exact Z6.new _ _ _);have hP3:∀ j,Also (Also P rb) b j->j<w3.heap.size:=fun j hj=>Nat.lt_of_lt_of_le (fI.out j hj) hk3.size
   have F7:∀ j,Also (Also (Also P rb) b) ab j->j<w4.heap.size:=fun j hj=>by
    rcases hj with hj|hj
    · exact Nat.lt_of_lt_of_le (hP3 j hj) hb4.size
    · subst hj;exact A4.lt
   have Ef:Z9 (Also (Also P rb) b) w2 w4:=hk3.trans (Z9.of_below hb4 hP3);have R4:=HR2.out.kept Ef (.inl (.inr rfl))
   have Qc:Tp w4 (Also (Also (Also P rb) b) ab) t (es++ZK gs++Y9 gs qs.length++XH qs.length):=(ht3.add (R:=Also (Also (Also P rb) b) ab) fun j hj=>by
    rcases hj with hj|hj
    · exact .inl hj
    · exact .inr (by omega)).step hb4
   have jV:=hide (Jg (Also (Also (Also P rb) b) ab) t (es++ZK gs++Y9 gs qs.length++XH qs.length) (ZB gs qs) yQ.out (by rw [F5.out];exact HN.out.1) (by rw [F5.out];exact HN.out.2) (some ⟨b,0,none⟩) qs.length w4 F7 ((HS2.out.kept Ef).mono fun j h=>.inl h) Qc (by
    rcases HL.out with h|h
    · exact .inl h
    · have h1:=Xy gs qs.length;have h2:=YQ gs;have h3:=U4 qs.length
      exact .inr (by rw [F5.out,List.length_append,List.length_append,List.length_append];omega)))
   rw [F5.out] at jV;have uG:rb<ab:=(by have:=HR2.out.lt;have:=hk3.size;omega);have dN:=hide A4;have HR4:=hide R4;have mI:=hide Ef;have Dz:=hide F7;have lY:=hide hab;have rT:=hide uG;clear hk3 ht3 hb4 A4 hP3 F7 Ef R4 Qc Cq uG;go_wp2_with fail;rw [<- hw4,<- hab];clear hw4 hab;refine jV.out.mono ?_;rintro e w5 ⟨sb,rfl,hk5,VB,Ab,uJ⟩;have A5:=dN.out.kept hk5 (.inr rfl);have R5:=HR4.out.kept hk5 (.inl (.inl (.inr rfl)));have z0:=A5.q0 rfl;have z1:=A5.q1 rfl;have z2:=A5.q2 rfl;have f2:=A5.frozen 2;have y0:=R5.q0 rfl;have y1:=R5.q1 rfl;have y2:=R5.q2 rfl;have g0:=R5.frozen 0;have g1:=R5.frozen 1;have g2:=R5.frozen 2;have hne1:¬ rb=ab:=(by have:=rT.out;omega);have hne2:¬ ab=rb:=(by omega);have uw:sb≠ab:=fun h=>Ab (.inr h);have uz:sb≠rb:=fun h=>Ab (.inl (.inl (.inr h)));have pR:=hide (And.intro uw uz);have HRR:=hide (((R5.far (p:=⟨ab,2,none⟩) (by dsimp only;omega) (.slice (some ⟨sb,0,none⟩) qs.length qs.length)).set 0 (.int .i64 vt)).set 1 (.int .i64 (C:Int)));have kJ:Z9 P w w5:=(yU.out.trans (rD.out.mono fun j h=>.inl h)).trans ((mI.out.mono fun j h=>.inl (.inl h)).trans (hk5.mono fun j h=>.inl (.inl (.inl h))));have HKK:=hide kJ;have bQ:=hide (VB.mono (R:=P) fun j h=>.inl (.inl (.inl h)));have HSL:=hide uJ
   have gB:Hid (Tp w5 (Also (Also P rb) ab) t (es++ZK gs++Y9 gs qs.length++XH qs.length++YT (Y5 (lg qs.length)))):=VB.mono fun j h=>by
    rcases h with (h|h)|h
    · exact .inl (.inl (.inl h))
    · exact .inl (.inl (.inr h))
    · exact .inr h
   clear hk5 VB Ab uJ A5 R5 kJ uw uz;go_wp2;refine bodyPost_ret (Tk rfl rfl (HRR.out.set 2 (.slice (some ⟨sb,0,none⟩) qs.length qs.length))) rfl ?_;have hil:(WH ZC (ZB gs qs)).length=qs.length:=(by rw [Qy,F5.out]);have hab':¬ P ab:=fun h=>by have:=HP.out _ h;have:=rT.out;have:=rU.out;omega
   refine ⟨some ⟨sb,0,none⟩,qs.length,Nat.le_of_eq hil,?_,?_,?_,?_⟩
   · rw [hil,<- nA.out,<- j3.out,<- dQ.out];rfl
   · exact HKK.out.trans ((Z9.setCell hab' _ _ _).trans ((Z9.setCell Jy.out _ _ _).trans ((Z9.setCell Jy.out _ _ _).trans (Z9.setCell Jy.out _ _ _))))
   · have h:=(((gB.out.set (.inr rfl) 2 (.slice (some ⟨sb,0,none⟩) qs.length qs.length)).set (.inl (.inr rfl)) 0 (.int .i64 vt)).set (.inl (.inr rfl)) 1 (.int .i64 (C:Int))).set (.inl (.inr rfl)) 2 (.slice (some ⟨sb,0,none⟩) qs.length qs.length);have h2:=h.mono (R:=P) fun j h=>.inl (.inl h);simp only [List.append_assoc] at h2 ⊢;exact h2
   · exact (((HSL.out.TT pR.out.1 _).TT pR.out.2 _).TT pR.out.2 _).TT pR.out.2 _
 · have hv:Yi gs qs=(WR,Y3 gs qs.length):=(by unfold Yi;rw [if_pos hc]);have he:UY gs qs.length=[]:=(by unfold UY;rw [if_pos hc]);rw [hv,he,List.append_nil];obtain ⟨F,hF⟩:=eE (Y3 gs qs.length);rw [<- hF] at hc HC ⊢;have HP:=hide hP;have HT:=hide ht;have HB0:=hide hb0;have yZ:=hide R0;have Jy:=hide Aa;clear hv he hF hP hg0 hs hgs JE hw ht Em Ig hb0 R0 Aa hl;go_enter func147,ntmps147;go_wp2_with fail;rw [<- hw0,<- hrb];have rU:=hide hrb;clear hw0 hrb;refine HC.out.mono ?_;rintro e w1 ⟨rfl,hb1⟩;have R1:=yZ.out.step hb1;have y0:=R1.q0 rfl;have y1:=R1.q1 rfl;have y2:=R1.q2 rfl;have g0:=R1.frozen 0;have g1:=R1.frozen 1;have g2:=R1.frozen 2;have HB1:=hide (Z8 HB0.out hb1);have HRR:=hide (((R1.set 0 (.int .i64 0)).set 1 (.int .i64 0)).set 2 (.slice none 0 0));clear R1 hb1 HC;go_wp2;refine bodyPost_ret (Tk rfl rfl HRR.out) rfl ?_;have hrl:w.heap.size<=rb:=(by rw [rU.out];exact Nat.le_refl _);have hbf:=((HB1.out.setCell (p:=⟨rb,0,none⟩) hrl (.int .i64 0)).setCell (p:=⟨rb,1,none⟩) hrl (.int .i64 0)).setCell (p:=⟨rb,2,none⟩) hrl (.slice none 0 0);exact ⟨none,0,Nat.le_refl _,rfl,Z9.of_below hbf HP.out,HT.out.step hbf,Sl.nil _ _ _⟩
structure zm(w:World)(P:Nat->Prop)(hrs:List Rg)(HA:Option Addr)(gs:List Gr)(GA:Option Addr)(ps:List Pt)(PA:Option Addr)(pc:Nat)(qs:List ((Int × Int) × Int))(QA:Option Addr):Prop where
 hh:Wx w P HA (rgCells hrs)
 hn:hrs.length<=maxLen
 hg:Wx w P GA (rgCells (gs.map (·.1)))
 gk:Jt w P gs
 hp:Wx w P PA (Y7 ps)
 pj:Lj ps
 cap:ps.length<=pc
 hq:Wx w P QA (VK qs)
 qj:∀ q∈qs,PJ q.1
 qu:∀ q∈qs,Uk q.2
theorem zm.kept{w w':World}{P R:Nat->Prop}{hrs:List Rg}{HA:Option Addr}{gs:List Gr}{GA:Option Addr}{ps:List Pt}{PA:Option Addr}{pc:Nat}{qs:List ((Int × Int) × Int)}{QA:Option Addr}(h:zm w P hrs HA gs GA ps PA pc qs QA)(hk:Z9 P w w')(hR:∀ k,P k->R k):zm w' R hrs HA gs GA ps PA pc qs QA :=
 ⟨(h.hh.kept hk).mono hR,h.hn,(h.hg.kept hk).mono hR,fun g hg=>⟨(h.gk g hg).1,((h.gk g hg).2.1.kept hk).mono hR,(h.gk g hg).2.2⟩,(h.hp.kept hk).mono hR,h.pj,h.cap,(h.hq.kept hk).mono hR,h.qj,h.qu⟩
end
section
open Go.RowKit
def Ow(g:Gr):Gr:=(⟨g.1.d,g.1.v,none,g.2.length,0⟩,g.2)
def cg(x:Gd):Gr:=(⟨x.1,x.2.1,none,x.2.2.length,0⟩,x.2.2)
theorem CP(gs:List Gr):(gs.map zN).map cg=gs.map Ow:=by rw [List.map_map];rfl
theorem Ul:∀ (gs:List Gr),(∀ g∈gs,g.1.n=g.2.length)->Zh ((gs.map Ow).map (·.1))=Zh (gs.map (·.1))
 | [],_=>rfl
 | g::gs,h=>by
   have ih:=Ul gs fun x hx=>h x (List.mem_cons_of_mem _ hx);have hn:=h g (List.mem_cons_self ..);rw [List.map_cons,List.map_cons,List.map_cons,Zh,Zh,ih];show (if Zd g.1.v=0 then _ else if Zd g.1.v=(g.2.length:Int) then _ else _)=_;rw [<- hn]
theorem Vl{gs:List Gr}(h:∀ g∈gs,g.1.n=g.2.length):Zt ((gs.map Ow).map (·.1))=Zt (gs.map (·.1)):=by
 unfold Zt;rw [Ul gs h,List.length_map,List.length_map,List.length_map]
theorem V8{gs:List Gr}(h:∀ g∈gs,g.1.n=g.2.length):Zx (gs.map Ow)=Zx gs:=by
 unfold Zx Qt;rw [Vl h,List.foldl_map];rfl
theorem QZ{gs:List Gr}(h:∀ g∈gs,g.1.n=g.2.length)(p:Pt):YA (gs.map Ow) p=YA gs p:=by
 unfold YA Vr;rw [Vl h,List.foldl_map];rfl
theorem JZ{gs:List Gr}(h:∀ g∈gs,g.1.n=g.2.length)(qs:List ((Int × Int) × Int)):ZB (gs.map Ow) qs=ZB gs qs:=by
 unfold ZB;refine List.map_congr_left fun q _=>?_;unfold hrec;rw [V8 h,QZ h]
theorem Ms{gs:List Gr}(h:∀ g∈gs,g.1.n=g.2.length)(n:Nat):Y3 (gs.map Ow) n=Y3 gs n:=by unfold Y3;rw [Vl h]
theorem Mt{gs:List Gr}(h:∀ g∈gs,g.1.n=g.2.length)(qs:List ((Int × Int) × Int)):Yi (gs.map Ow) qs=Yi gs qs:=by unfold Yi;rw [Ms h,V8 h,JZ h]
end
end Go.Proofs.YthnenedoblncjaaGreatDoor