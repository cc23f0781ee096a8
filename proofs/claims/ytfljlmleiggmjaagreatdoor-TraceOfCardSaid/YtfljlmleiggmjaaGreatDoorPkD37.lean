/- Batch BatchRun RefSort13 -/
import Derived.Test.YtfljlmleiggmjaaGreatDoorPkD34
set_option maxRecDepth 1000000
set_option maxHeartbeats 8000000
namespace Go.Proofs.YtfljlmleiggmjaaGreatDoor
open Go.Proofs.Tryz
section
open Go.RowKit Go.Shelf
theorem zB(n:Nat):XT (n+1)=XT n++[(1,(n:Int),0)]:=by simp [XT,List.range_succ]
theorem Om(n:Nat):(XT n).length=n:=by simp [XT]
theorem Hg(l:List (Int × Int))(r:Int × Int):Xt (l++[r])=Xt l+r.1.toNat:=by simp [Xt]
theorem MR(gs:List Gr)(n:Nat):XI gs (n+1)=XI gs n++((8,(n:Int),0)::YC gs):=by simp [XI,List.range_succ]
theorem Me(gs:List Gr):(YC gs).length<=4160:=by
 unfold YC;split
 · rename_i h
   have h1:=Q5 0 gs;have h2:gs.length<=64:=by
    unfold Zk at h;split at h
    · omega
    · rename_i h2;rw [List.length_map] at h2;omega
   omega
 · simp
theorem TW(gs:List Gr)(n:Nat):(XI gs n).length<=4161*n:=by
 induction n with
 | zero=>simp [XI]
 | succ n ih =>
   have:=Me gs;rw [MR,List.length_append,List.length_cons];omega
theorem aW{w:World}{B:Nat}{A:Option Addr}{l:List (Int × Int)}{k:Nat}{r:Int × Int}(h:Sl w B A (Zt l))(hk:l[k]?=some r):
 ∃ b off,A=some ⟨b,off,none⟩/\w.cell? ⟨b,off+k*2,none⟩=some (.int .u64 r.1)/\w.cell? ⟨b,off+k*2+1,none⟩=some (.int .u64 r.2):=by
 obtain ⟨b,off,hA,_,h0,h1⟩:=h.Es hk;exact ⟨b,off,hA,h0,h1⟩
theorem uY(P:Nat->Prop)(t:Option (Nat × Nat))(es:List Ev)(rs:List (Int × Int))(hcl:∀ r∈rs,Pp r)(hn:rs.length<=4096)(A:Option Addr)(c:Nat)(w:World)(hP:∀ k,P k->k<w.heap.size)(hs:U2 w P A (Zt rs))(ht:Tp w P t es)(hl:t=none\/es.length<=990000):
 Calls prog 154 #[.pointer (Zu t),.slice A rs.length c] w fun e w'=>e=.returned (.int .u64 (Xt rs:Int))/\Z8 P w w'/\Tp w' P t (es++XT rs.length):=by
 have HP:=hide hP;have HS:=hide hs;have HT:=hide ht;have RN:=hide hcl;clear hP hs ht hcl;go_enter func154,ntmps154;go_wp2
 go_loopw [5,10] (fun u i wr=>∃ k:Nat,k<=rs.length/\i=.int .i64 k/\u=.int .u64 (Xt (rs.take k):Int)/\Z8 P w wr/\Tp wr P t (es++XT k))
  (fun _ i _=>rs.length - (intOf i).toNat)
 case atStart=>exact ⟨0,Nat.zero_le _,rfl,rfl,Z8.refl _ _,by simpa [XT] using HT.out⟩
 case round =>
  obtain ⟨k,hk,rfl,rfl,hkp,htp⟩:=hrel
  by_cases hlt:k<rs.length
  · have Uj:(k:Int)<(rs.length:Int):=(by omega);obtain ⟨r,hr⟩:∃ r,rs[k]?=some r:=⟨_,List.getElem?_eq_getElem hlt⟩;have hrc:=RN.out r (List.mem_of_getElem? hr);have hu:=Fw hrc;have RY:∀ j,P j->j<wr.heap.size:=fun j hj=>Nat.lt_of_lt_of_le (HP.out j hj) hkp.size;obtain ⟨b,off,rfl,c0,c1⟩:=aW ((HS.out.kept hkp).sl RY) hr;have hbit:r.1 % 2=r.1:=by
     rcases hrc with ⟨h,_⟩|h
     · rw [h];rfl
     · rw [h];rfl
    have uq:=hide (fun wk=>CY r.1 hu.1.1 hu.1.2 wk);rw [hbit] at uq;have hcs:=Hg (rs.take k) r;have htk:rs.take (k+1)=rs.take k++[r]:=(by rw [List.take_add_one,hr];rfl);rw [<- htk] at hcs;have hle:=QC (rs.take k) (fun x hx=>RN.out x (List.mem_of_mem_take hx));rw [List.length_take] at hle;have hr1:0<=r.1/\r.1<=1:=by
     rcases hrc with ⟨h,_⟩|h
     · rw [h];decide
     · rw [h];decide
    have hw:IntKind.u64.wrap ((Xt (rs.take k):Int)+r.1)=(Xt (rs.take (k+1)):Int):=(by rw [IntKind.wrap_u64,hcs];omega);obtain ⟨C0,hC0⟩:=eE (Xt (rs.take k));obtain ⟨C1,hC1⟩:=eE (Xt (rs.take (k+1)));have Tm:=hide hC1;rw [<- hC0] at hw;rw [<- hC1] at hw;rw [<- hC0];obtain ⟨r1,r2⟩:=r;dsimp only at *;obtain ⟨xb,hxb⟩:=eE wr.heap.size;obtain ⟨w0,hw0⟩:=eE (wr.alloc (.cells #[.int .u64 r1,.int .u64 r2] 150));have hb0:=bE hw0;have X0:Z6 w0 xb 150 #[.int .u64 r1,.int .u64 r2]:=by rw [hw0,hxb];exact Z6.new _ _ _
    have Sg:∀ j,Also P xb j->j<w0.heap.size:=fun j hj=>by
     rcases hj with hj|hj
     · exact Nat.lt_of_lt_of_le (RY j hj) hb0.size
     · subst hj;exact X0.lt
    have ht0:Tp w0 (Also P xb) t (es++XT k):=(htp.add (R:=Also P xb) fun j hj=>by
     rcases hj with hj|hj
     · exact .inl hj
     · exact .inr (by omega)).step hb0
    have RU:=hide (Bg (Also P xb) t (es++XT k) 1 (k:Int) 0 w0 Sg ht0 (by rcases hl with h|h;exact .inl h;exact .inr (by rw [List.length_append,Om];omega)) (by unfold Yu;omega));have Mv:=hide (hkp.trans (Z8.of_below hb0 RY));have HX0:=hide X0;have RO:=hide (zB k);clear hrc hu hbit hcs htk hle hr1 hkp htp hC0 hC1 hr RY Sg ht0 hb0 X0;go_wp2_with fail;rw [<- hw0,<- hxb];clear hw0 hxb;refine RU.out.mono ?_;rintro e w1 ⟨rfl,hk1,_,ht1⟩;have X1:=HX0.out.kept hk1 (.inr rfl);have x0:=X1.q0 rfl;dsimp at x0;have Np:=hide (Mv.out.trans (hk1.mono fun j hj=>.inl hj));have HT1:=hide (ht1.mono (R:=P) fun j hj=>.inl hj);clear hk1 ht1 X1 c0 c1 RU;go_wp2_with fail;refine (uq.out _).mono ?_;rintro e w2 ⟨rfl,rfl⟩;go_wp2;go_roundw
    case rel=>exact ⟨k+1,by omega,by go_num,by rw [<- Tm.out],Np.out,by rw [RO.out,<- List.append_assoc];exact HT1.out⟩
    case measure=>simp [intOf];omega
  · obtain rfl:k=rs.length:=(by omega);rw [List.take_of_length_le (Nat.le_refl _)];go_wp2;go_ret;exact ⟨rfl,hkp,htp⟩
theorem qR(P:Nat->Prop)(t:Option (Nat × Nat))(es:List Ev)(gs:List Gr)(GA:Option Addr)(gc:Nat)(p:Pt)(hp:PJ p)(w:World)(hP:∀ k,P k->k<w.heap.size)(hg0:P 3)(hs:U2 w P GA (rgCells (gs.map (·.1))))(hgs:xK w P gs)(hw:MW w)(ht:Tp w P t es)(hl:t=none\/es.length<=890000):
 Calls prog 184 #[.pointer (Zu t),.slice GA gs.length gc,.agg #[.int .i64 p.1,.int .i64 p.2]] w fun e w'=>e=.returned (.int .u64 (Zy (XD gs p)))/\Z8 P w w'/\Tp w' P t (es++YC gs):=by
 rcases hl with rfl|hl
 · refine (UY P none [] gs GA gc p hp w hP hg0 hs hgs hw trivial (by simp)).mono ?_;rintro e w' ⟨h1,h2,_⟩;exact ⟨h1,h2,trivial⟩
 · exact UY P t es gs GA gc p hp w hP hg0 hs hgs hw ht hl
abbrev uK(b1 b2 b3 b4 b o:Nat)(ta:Option Addr)(V:Bool)(GA QA:Option Addr)(gn gc qn qc:Nat)(q1 q2 q3:Int)(w:World):Prop :=
 w.cell? ⟨b1,0,none⟩=some (.pointer ta)/\w.cell? ⟨b2,0,none⟩=some (.int .u64 (Zy V))/\w.cell? ⟨b3,0,none⟩=some (.slice GA gn gc)/\w.cell? ⟨b4,0,none⟩=some (.slice QA qn qc) /\
  w.cell? ⟨b,o,none⟩=some (.int .i64 q1)/\w.cell? ⟨b,o+1,none⟩=some (.int .i64 q2)/\w.cell? ⟨b,o+2,none⟩=some (.int .u64 q3)
theorem uK.keep{b1 b2 b3 b4 b o:Nat}{ta:Option Addr}{V:Bool}{GA QA:Option Addr}{gn gc qn qc:Nat}{q1 q2 q3:Int}{P:Nat->Prop}{w w':World}(h:uK b1 b2 b3 b4 b o ta V GA QA gn gc qn qc q1 q2 q3 w)(hk:Z8 P w w')(hb:P b1/\P b2/\P b3/\P b4/\P b):uK b1 b2 b3 b4 b o ta V GA QA gn gc qn qc q1 q2 q3 w':=by
 obtain ⟨h1,h2,h3,h4,h5,h6,h7⟩:=h;exact ⟨(hk.cell hb.1 _).trans h1,(hk.cell hb.2.1 _).trans h2,(hk.cell hb.2.2.1 _).trans h3,(hk.cell hb.2.2.2.1 _).trans h4,(hk.cell hb.2.2.2.2 _).trans h5,(hk.cell hb.2.2.2.2 _).trans h6,(hk.cell hb.2.2.2.2 _).trans h7⟩
theorem uK.zqn{b1 b2 b3 b4 b o:Nat}{ta:Option Addr}{V:Bool}{GA QA:Option Addr}{gn gc qn qc:Nat}{q1 q2 q3:Int}{w w':World}(h:uK b1 b2 b3 b4 b o ta V GA QA gn gc qn qc q1 q2 q3 w)(hb:Below w.heap.size w w'):uK b1 b2 b3 b4 b o ta V GA QA gn gc qn qc q1 q2 q3 w':=by
 have on:∀ {b o:Nat} {v:Value},w.cell? ⟨b,o,none⟩=some v->w'.cell? ⟨b,o,none⟩=some v:=fun h=>(hb.cell (p:=⟨_,_,none⟩) (Zv h)).trans h;obtain ⟨h1,h2,h3,h4,h5,h6,h7⟩:=h;exact ⟨on h1,on h2,on h3,on h4,on h5,on h6,on h7⟩
theorem qU(a b:Bool):bits BinOp.and IntKind.u64 (Zy a) (Zy b)=Zy (a && b):=by cases a <;> cases b <;> decide
theorem qx (P:Nat->Prop) (t:Option (Nat × Nat)) (es:List Ev) (gs:List Gr) (GA:Option Addr) (gc:Nat) (qs:List ((Int × Int) × Int)) (QA:Option Addr) (qc:Nat) (V:Bool) (b1 b2 b3 b4:Nat) (i:Nat) (q:(Int × Int) × Int) (hq:qs[i]?=some q) (pI:PJ q.1) (PW:Uf q.2) (w:World) (hP:∀ k,P k->k<w.heap.size) (hg0:P 3)
 (hb:P b1/\P b2/\P b3/\P b4) (h1:w.cell? ⟨b1,0,none⟩=some (.pointer (Zu t))) (h2:w.cell? ⟨b2,0,none⟩=some (.int .u64 (Zy V))) (h3:w.cell? ⟨b3,0,none⟩=some (.slice GA gs.length gc)) (h4:w.cell? ⟨b4,0,none⟩=some (.slice QA qs.length qc))
 (hs:U2 w P GA (rgCells (gs.map (·.1)))) (hgs:xK w P gs) (Qh:U2 w P QA (Vs qs)) (hw:MW w) (ht:Tp w P t es) (hl:t=none\/es.length<=880000) :
 Calls prog 182 #[.int .i64 (i:Int),.pointer (some ⟨b1,0,none⟩),.pointer (some ⟨b2,0,none⟩),.pointer (some ⟨b3,0,none⟩),.pointer (some ⟨b4,0,none⟩)] w fun e w' =>
  e=.returned (.agg #[.int .u64 (if (V && XD gs q.1)=true then (1,q.2) else (0,0):Int × Int).1,.int .u64 (if (V && XD gs q.1)=true then (1,q.2) else (0,0):Int × Int).2])/\Z8 P w w'/\Tp w' P t (es++((8,(i:Int),0)::YC gs)):=by
 obtain ⟨rb,hrb⟩:=eE w.heap.size;obtain ⟨w0,hw0⟩:=eE (w.alloc (.cells #[.int .u64 0,.int .u64 0] 150));have hb0:=bE hw0;have R0:Z6 w0 rb 150 #[.int .u64 0,.int .u64 0]:=by rw [hw0,hrb];exact Z6.new _ _ _
 have Sg:∀ j,Also P rb j->j<w0.heap.size:=fun j hj=>by
  rcases hj with hj|hj
  · exact Nat.lt_of_lt_of_le (hP j hj) hb0.size
  · subst hj;exact R0.lt
 have ht0:Tp w0 (Also P rb) t es:=(ht.add (R:=Also P rb) fun j hj=>by
  rcases hj with hj|hj
  · exact .inl hj
  · exact .inr (by omega)).step hb0
 have hk0:Z8 P w w0:=Z8.of_below hb0 hP;have hlt:i<qs.length:=(List.getElem?_eq_some_iff.1 hq).1;have Uj:(i:Int)<(qs.length:Int):=by omega
 have Aq:∃ b off,QA=some ⟨b,off,none⟩/\P b/\w.cell? ⟨b,off+i*3,none⟩=some (.int .i64 q.1.1)/\w.cell? ⟨b,off+i*3+1,none⟩=some (.int .i64 q.1.2)/\w.cell? ⟨b,off+i*3+2,none⟩=some (.int .u64 q.2):=by
  obtain ⟨b,off,hA,_,e0,e1,e2⟩:=(Qh.sl hP).qu hq;refine ⟨b,off,hA,?_,e0,e1,e2⟩;rcases Qh with h|⟨b',off',hA',hb',_⟩
  · exfalso
    have hl:=YK (fun q:(Int × Int) × Int=>[Value.int .i64 q.1.1,.int .i64 q.1.2,.int .u64 q.2]) 3 (fun _=>rfl) qs;have:(Vs qs).length=0:=(by rw [h];rfl);unfold Vs at this;omega
  · rw [hA] at hA';cases hA';exact hb'
 obtain ⟨b,off,rfl,hPb,e0,e1,e2⟩:=Aq;have hS:uK b1 b2 b3 b4 b (off+i*3) (Zu t) V GA (some ⟨b,off,none⟩) gs.length gc qs.length qc q.1.1 q.1.2 q.2 w:=⟨h1,h2,h3,h4,e0,e1,e2⟩;have hbs:P b1/\P b2/\P b3/\P b4/\P b:=⟨hb.1,hb.2.1,hb.2.2.1,hb.2.2.2,hPb⟩;have hS0:=hS.keep hk0 hbs;have RU:=hide (Bg (Also P rb) t es 8 (i:Int) 0 w0 Sg ht0 (by rcases hl with h|h;exact .inl h;exact .inr (by omega)) (by unfold Yu;omega))
 have HME:Hid (∀ wk,Z8 P w wk->(∀ j,Also P rb j->j<wk.heap.size)->Tp wk (Also P rb) t (es++[(8,(i:Int),0)])->Calls prog 184 #[.pointer (Zu t),.slice GA gs.length gc,.agg #[.int .i64 q.1.1,.int .i64 q.1.2]] wk fun e w'=>e=.returned (.int .u64 (Zy (XD gs q.1)))/\Z8 (Also P rb) wk w'/\Tp w' (Also P rb) t (es++[(8,(i:Int),0)]++YC gs)) :=
  hide fun wk hk h0 h5=>qR (Also P rb) t _ gs GA gc q.1 pI wk h0 (.inl hg0) ((hs.kept hk).mono fun j hj=>.inl hj) (fun g hg=>⟨(hgs g hg).1,((hgs g hg).2.1.kept hk).mono fun j hj=>.inl hj,(hgs g hg).2.2⟩) (hw.kept hk hg0) h5 (by rcases hl with h|h;exact .inl h;exact .inr (by rw [List.length_append];simp only [List.length_singleton];omega))
 obtain ⟨M,hM⟩:=eE (XD gs q.1);rw [<- hM] at HME ⊢;have hmb:=Vk (V && M);have RN:=hide (fun wk=>Qz (Zy (V && M)) q.2 hmb.1 hmb.2 PW.1 PW.2 wk);rw [kT] at RN;have hand:=qU V M;obtain ⟨R,hR⟩:∃ R:Int × Int,R=(if (V && M)=true then (1,q.2) else (0,0)):=⟨_,rfl⟩;rw [<- hR] at RN ⊢;obtain ⟨mv,hmv⟩:=eE (Zy (V && M));rw [<- hmv] at RN hand;obtain ⟨⟨q1,q2⟩,q3⟩:=q;obtain ⟨r1,r2⟩:=R;dsimp only at *;have Mi:¬ P rb:=fun h=>by have:=hP _ h;omega
 have Mv:=hide hk0;have L8:=hide hbs;have uG:=hide Sg;have Sb:=hide Mi;have gJ:=hide R0;have HB0:=hide hb0;clear hR hmv hM hmb hP hg0 hb h1 h2 h3 h4 hs hgs Qh hw ht hl hb0 R0 Sg ht0 hk0 hbs Mi hq pI PW hPb e0 e1 e2 hS;go_enter func182,ntmps182;have t1:=hS0.1;rw [hw0] at t1;go_wp2_with fail;rw [<- hw0,<- hrb];have JL:=hide hrb;clear hw0 hrb;refine RU.out.mono ?_;rintro e w1 ⟨rfl,hk1,_,ht1⟩;have hS1:=hS0.keep hk1 ⟨.inl L8.out.1,.inl L8.out.2.1,.inl L8.out.2.2.1,.inl L8.out.2.2.2.1,.inl L8.out.2.2.2.2⟩;have znv:uK b1 b2 b3 b4 b (off+i*3) (Zu t) V GA (some ⟨b,off,none⟩) gs.length gc qs.length qc q1 q2 q3 w1.drew:=hS1;have HR1:=hide (gJ.out.kept hk1 (.inr rfl));have Np:=hide hk1;have fV:=hide (Mv.out.trans (hk1.mono fun j hj=>.inl hj));have HT1:=hide ht1;have gB:=hide (HME.out w1.drew (fV.out.trans (Z8.drew _ _)) (fun j hj=>Nat.lt_of_lt_of_le (uG.out j hj) hk1.size) ht1.drew)
 have dI:Hid (∀ wa wb,uK b1 b2 b3 b4 b (off+i*3) (Zu t) V GA (some ⟨b,off,none⟩) gs.length gc qs.length qc q1 q2 q3 wa->Z8 (Also P rb) wa wb->uK b1 b2 b3 b4 b (off+i*3) (Zu t) V GA (some ⟨b,off,none⟩) gs.length gc qs.length qc q1 q2 q3 wb) :=
  hide fun wa wb h hk=>h.keep hk ⟨.inl L8.out.1,.inl L8.out.2.1,.inl L8.out.2.2.1,.inl L8.out.2.2.2.1,.inl L8.out.2.2.2.2⟩
 have znj:Hid (∀ wk,uK b1 b2 b3 b4 b (off+i*3) (Zu t) V GA (some ⟨b,off,none⟩) gs.length gc qs.length qc q1 q2 q3 wk->uK b1 b2 b3 b4 b (off+i*3) (Zu t) V GA (some ⟨b,off,none⟩) gs.length gc qs.length qc q1 q2 q3 ((wk.setCell ⟨rb,0,none⟩ (.int .u64 r1)).setCell ⟨rb,1,none⟩ (.int .u64 r2))) :=
  hide fun wk h=>h.keep ((Z8.setCell Sb.out _ _ _).trans (Z8.setCell Sb.out _ _ _)) L8.out
 clear hk1 ht1 t1 hS0 RU HME;go_wp2_with fail
 go_region_held3 (fun w'=>w'.cell? ⟨b1,0,none⟩=some (.pointer (Zu t))/\w'.cell? ⟨b2,0,none⟩=some (.int .u64 (Zy V))/\w'.cell? ⟨b3,0,none⟩=some (.slice GA gs.length gc)/\w'.cell? ⟨b4,0,none⟩=some (.slice (some ⟨b,off,none⟩) qs.length qc) /\
  w'.cell? ⟨b,off+i*3,none⟩=some (.int .i64 q1)/\w'.cell? ⟨b,off+i*3+1,none⟩=some (.int .i64 q2)/\w'.cell? ⟨b,off+i*3+2,none⟩=some (.int .u64 q3))
  (first|with_reducible exact znv|with_reducible exact hS1|with_reducible assumption|with_reducible exact znj.out _ (by assumption)|exact dI.out _ _ znv (by assumption)|exact dI.out _ _ (by assumption) (by assumption)|exact uK.zqn (by assumption) (by assumption))
  (first
    | (go_at_call 184;((with_reducible refine gB.out.mono ?_);rintro e w2 ⟨rfl,hk2,ht2⟩))
    | (go_at_call 183;((with_reducible refine (RN.out _).mono ?_);rintro e w3 ⟨rfl,hb3⟩;have R3:=(HR1.out.drew.kept hk2 (.inr rfl)).step hb3;have z0:=R3.q0 rfl;have z1:=R3.q1 rfl;have f0:=R3.frozen 0;have f1:=R3.frozen 1)))
 all_goals
  have e0:=((R3.set 0 (.int .u64 r1)).set 1 (.int .u64 r2)).q0 rfl;have e1:=((R3.set 0 (.int .u64 r1)).set 1 (.int .u64 r2)).q1 rfl;have hp2:∀ j,P j->j<w2.heap.size:=fun j hj=>Nat.lt_of_lt_of_le (uG.out j (.inl hj)) (Nat.le_trans Np.out.size hk2.size)
  have hkf:Z8 P w ((w3.setCell ⟨rb,0,none⟩ (.int .u64 r1)).setCell ⟨rb,1,none⟩ (.int .u64 r2)) :=
   (fV.out.trans ((Z8.drew _ _).trans (hk2.mono fun j hj=>.inl hj))).trans ((Z8.of_below hb3 hp2).trans ((Z8.setCell Sb.out _ _ _).trans (Z8.setCell Sb.out _ _ _)))
  have htf:Tp ((w3.setCell ⟨rb,0,none⟩ (.int .u64 r1)).setCell ⟨rb,1,none⟩ (.int .u64 r2)) P t (es++((8,(i:Int),0)::YC gs)):=by
   have h:=(((ht2.step hb3).set (.inr rfl) 0 (.int .u64 r1)).set (.inr rfl) 1 (.int .u64 r2)).mono (R:=P) fun j hj=>.inl hj;rw [List.append_assoc] at h;exact h
  have HF:=hide (And.intro hkf htf);clear hkf htf hk2 ht2 hb3 R3 z0 z1 f0 f1;go_wp2;refine bodyPost_ret (v:=.agg #[.int .u64 r1,.int .u64 r2]) (by simp [results,Tryz.results182,go_sem,e0,e1]) rfl ⟨rfl,HF.out⟩
theorem vS{gs:List Gr}{qs:List ((Int × Int) × Int)}{k:Nat}{q:(Int × Int) × Int}(h:qs[k]?=some q):(Y6 gs qs)[k]?=some (hrec gs q):=by
 unfold Y6;rw [List.getElem?_map,h];rfl
def R9(gs:List Gr)(qs:List ((Int × Int) × Int))(k:Nat):List (Int × Int):=(Y6 gs qs).take k++List.replicate (qs.length - k) (0,0)
theorem wX(gs:List Gr)(qs:List ((Int × Int) × Int)):madeCells #[.int .u64 0,.int .u64 0] (qs.length*2)=QL (R9 gs qs 0):=by
 refine F7 (by rw [size_madeCells];simp [R9]) fun k r hk=>?_
 have hz:∀ i,i<qs.length*2->(madeCells #[.int .u64 0,.int .u64 0] (qs.length*2))[i]?=some (.int .u64 0):=fun i hi=>by
  have:i % 2=0\/i % 2=1:=by omega
  unfold madeCells;rw [Array.getElem?_map,Array.getElem?_range];rw [if_pos hi];rcases this with h|h <;> simp [h]
 unfold R9 at hk;rw [List.take_zero,List.nil_append,Nat.sub_zero] at hk;obtain ⟨h1,h2⟩:=List.getElem?_eq_some_iff.1 hk;rw [List.length_replicate] at h1;rw [List.getElem_replicate] at h2;subst h2;exact ⟨hz _ (by omega),hz _ (by omega)⟩
theorem Jc{gs:List Gr}{qs:List ((Int × Int) × Int)}{k:Nat}{r:Int × Int}(hk:k<qs.length)(h:(Y6 gs qs)[k]?=some r):
 ((QL (R9 gs qs k)).setIfInBounds (k*2) (.int .u64 r.1)).setIfInBounds (k*2+1) (.int .u64 r.2)=QL (R9 gs qs (k+1)):=by
 have hl:(Y6 gs qs).length=qs.length:=by unfold Y6;rw [List.length_map]
 have l1:∀ j,j<=qs.length->(R9 gs qs j).length=qs.length:=fun j hj=>by unfold R9;rw [List.length_append,List.length_take,List.length_replicate,hl];omega
 have hsz:(QL (R9 gs qs k)).size=qs.length*2:=by rw [OW,l1 k (by omega)]
 refine F7 (by simp only [Array.size_setIfInBounds];rw [hsz,l1 (k+1) (by omega)]) fun j x hj=>?_;simp only [Array.getElem?_setIfInBounds,Array.size_setIfInBounds,hsz];unfold R9 at hj
 by_cases e:j=k
 · subst e;rw [List.getElem?_append_left (by rw [List.length_take,hl];omega),List.getElem?_take_of_lt (by omega),h] at hj;cases hj;exact ⟨by rw [if_neg (by omega),if_pos rfl,if_pos (by omega)],by rw [if_pos rfl,if_pos (by omega)]⟩
 · have hj2:(R9 gs qs k)[j]?=some x:=by
    unfold R9
    by_cases hjk:j<k
    · rw [List.getElem?_append_left (by rw [List.length_take,hl];omega),List.getElem?_take_of_lt (by omega)] at hj;rw [List.getElem?_append_left (by rw [List.length_take,hl];omega),List.getElem?_take_of_lt (by omega)];exact hj
    · have t1:((Y6 gs qs).take k).length=k:=(by rw [List.length_take,hl];omega);have t2:((Y6 gs qs).take (k+1)).length=k+1:=(by rw [List.length_take,hl];omega);rw [List.getElem?_append_right (by omega),t2] at hj;rw [List.getElem?_append_right (by omega),t1];obtain ⟨h1,h2⟩:=List.getElem?_eq_some_iff.1 hj;rw [List.length_replicate] at h1;rw [List.getElem_replicate] at h2;rw [List.getElem?_replicate,if_pos (by omega),h2]
   have h2:=Vd hj2;exact ⟨by rw [if_neg (by omega),if_neg (by omega)];exact h2.1,by rw [if_neg (by omega),if_neg (by omega)];exact h2.2⟩
theorem lU(P:Nat->Prop)(t:Option (Nat × Nat))(es:List Ev)(gs:List Gr)(GA:Option Addr)(gc:Nat)(w:World)(hP:∀ k,P k->k<w.heap.size)(hg0:P 3)(hs:U2 w P GA (rgCells (gs.map (·.1))))(hgs:xK w P gs)(hw:MW w)(ht:Tp w P t es)(hl:t=none\/es.length<=600000):
 Calls prog 181 #[.pointer (Zu t),.slice GA gs.length gc] w fun e w'=>e=.returned (.int .u64 (Zy (Y7 gs)))/\Z8 P w w'/\Tp w' P t (es++Ze gs):=by
 rcases hl with rfl|hl
 · refine (Uu P none [] gs GA gc w hP hg0 hs hgs hw trivial (by simp)).mono ?_;rintro e w' ⟨h1,h2,_⟩;exact ⟨h1,h2,trivial⟩
 · exact Uu P t es gs GA gc w hP hg0 hs hgs hw ht hl
theorem Df (P:Nat->Prop) (t:Option (Nat × Nat)) (es:List Ev) (gs:List Gr) (GA:Option Addr) (gc:Nat) (qs:List ((Int × Int) × Int)) (QA:Option Addr) (qc:Nat) (pI:∀ q∈qs,PJ q.1) (PW:∀ q∈qs,Uf q.2) (hqn:qs.length<=4096) (w:World) (hP:∀ k,P k->k<w.heap.size) (hg0:P 3)
 (hs:U2 w P GA (rgCells (gs.map (·.1)))) (hgs:xK w P gs) (Qh:U2 w P QA (Vs qs)) (hw:MW w) (ht:Tp w P t es) (hl:t=none\/es.length+4161*qs.length<=600000) :
 Calls prog 152 #[.pointer (Zu t),.slice GA gs.length gc,.slice QA qs.length qc] w fun e w' =>
  ∃ b,e=.returned (.tuple #[.int .u64 (Zy (Y7 gs)),.slice (some ⟨b,0,none⟩) qs.length qs.length])/\Z8 P w w'/\Tp w' (Also P b) t (es++Ze gs++XI gs qs.length)/\b<w'.heap.size/\Z6 w' b 150 (QL (Y6 gs qs)):=by
 obtain ⟨tb,htb⟩:=eE w.heap.size;obtain ⟨w0,hw0⟩:=eE (((w.alloc (.cells #[.pointer (Zu t)] 51)).alloc (.cells #[.slice GA gs.length gc] 22)).alloc (.cells #[.slice QA qs.length qc] 71));have hb0:Below w.heap.size w w0:=by rw [hw0];exact Z7 (Z7 (bA) _) _
 have T0:Z6 w0 tb 51 #[.pointer (Zu t)]:=by rw [hw0,htb];exact ((Z6.new _ _ _).alloc _).alloc _
 have G0:Z6 w0 (tb+1) 22 #[.slice GA gs.length gc]:=by rw [hw0,htb];exact (Z6.new2 _ _ _ _).alloc _
 have Q0:Z6 w0 (tb+1+1) 71 #[.slice QA qs.length qc]:=by
  rw [hw0,htb];have h:=Z6.new ((w.alloc (.cells #[.pointer (Zu t)] 51)).alloc (.cells #[.slice GA gs.length gc] 22)) 71 #[.slice QA qs.length qc];simpa using h
 have hz0:w0.heap.size=tb+3:=by rw [hw0,htb];simp
 have hm:=Yg hP hb0;have hk0:Z8 P w w0:=Z8.of_below hb0 hP;have HV:=hide (lU (More P w w0) t es gs GA gc w0 hm (.inl hg0) ((hs.kept hk0).mono fun k h=>.inl h) (fun g hg=>⟨(hgs g hg).1,((hgs g hg).2.1.kept hk0).mono fun k h=>.inl h,(hgs g hg).2.2⟩) (hw.step hb0) (ht.more hb0) (by rcases hl with h|h;exact .inl h;exact .inr (by omega)));have l9:Hid (More P w w0 tb):=.inr ⟨by omega,T0.lt⟩;have HMG:Hid (More P w w0 (tb+1)):=.inr ⟨by omega,G0.lt⟩;have dJ:Hid (More P w w0 (tb+1+1)):=.inr ⟨by omega,Q0.lt⟩;have HP:=hide hP;have HG:=hide hg0;have HS:=hide hs;have Qc:=hide hgs;have HQS:=hide Qh;have HW:=hide hw;have Mv:=hide hk0;have HM:=hide hm;have HQP:=hide pI;have HQU:=hide PW;have HZ0:=hide hz0;have t0:=T0.q0 rfl;have g0:=G0.q0 rfl;rw [hw0] at t0 g0;clear hP hg0 hs hgs Qh hw ht hb0 hm hk0 pI PW hz0;go_enter func152,ntmps152;go_wp2_with fail;rw [<- hw0,<- htb];have mD:=hide htb;clear htb;refine HV.out.mono ?_;rintro e w1 ⟨rfl,hk1,ht1⟩;obtain ⟨vb,hvb⟩:=eE w1.heap.size;obtain ⟨V,hV⟩:=eE (Y7 gs);rw [<- hV];have hmk:=fun w=>Ir qs.length (by omega) w;obtain ⟨W2,hW2⟩:=eE ((w1.alloc (.cells #[.int .u64 (Zy V)] 124)).alloc (.cells (madeCells #[.int .u64 0,.int .u64 0] (qs.length*2)) 150));have hb2:=bF hW2;have V2:Z6 W2 vb 124 #[.int .u64 (Zy V)]:=by rw [hW2,hvb];exact (Z6.new _ _ _).alloc _
 have hz2:W2.heap.size=vb+2:=by rw [hW2,hvb];simp
 have O2:Z6 W2 (vb+1) 150 (QL (R9 gs qs 0)):=by
  have h:Z6 W2 (vb+1) 150 (madeCells #[.int .u64 0,.int .u64 0] (qs.length*2)):=by rw [hW2,hvb];exact Z6.new2 _ _ _ _
  rw [wX] at h;exact h
 have T2:=(T0.kept hk1 l9.out).step hb2;have G2:=(G0.kept hk1 HMG.out).step hb2;have Q2:=(Q0.kept hk1 dJ.out).step hb2;have hvt:tb+3<=vb:=by have:=hk1.size;have:=HZ0.out;omega
 have hM2:∀ j,More P w w0 j->j<vb:=fun j hj=>by have:=HM.out j hj;have:=hk1.size;omega
 have hQ2:∀ j,Also (Also (More P w w0) vb) (vb+1) j->j<W2.heap.size:=fun j hj=>by
  rcases hj with (hj|hj)|hj
  · have:=hM2 j hj;omega
  · omega
  · omega
 have ht2:Tp W2 (Also (Also (More P w w0) vb) (vb+1)) t (es++Ze gs):=(ht1.add (R:=Also (Also (More P w w0) vb) (vb+1)) fun j hj=>by
  rcases hj with (hj|hj)|hj
  · exact .inl hj
  · exact .inr (by omega)
  · exact .inr (by omega)).step hb2
 have zmq:=hide (Mv.out.trans ((hk1.mono fun j h=>.inl h).trans (Z8.of_below hb2 fun j hj=>Nat.lt_of_lt_of_le (hM2 j (.inl hj)) (by omega))));have HPQ:Hid (∀ j,P j->Also (Also (More P w w0) vb) (vb+1) j):=fun j hj=>.inl (.inl (.inl hj))
 have RU:Hid (¬ Also (More P w w0) vb (vb+1)):=fun h=>by
  rcases h with h|h
  · have:=hM2 _ h;omega
  · omega
 have HIT:Hid (∀ (k:Nat) (wr:World),k<qs.length->Z8 (Also (More P w w0) vb) W2 wr->(∀ j,Also (Also (More P w w0) vb) (vb+1) j->j<wr.heap.size)->Z6 wr tb 51 #[.pointer (Zu t)]/\Z6 wr (tb+1) 22 #[.slice GA gs.length gc]/\Z6 wr (tb+1+1) 71 #[.slice QA qs.length qc]/\Z6 wr vb 124 #[.int .u64 (Zy V)] ->
  Tp wr (Also (Also (More P w w0) vb) (vb+1)) t (es++Ze gs++XI gs k)->∃ r:Int × Int,(Y6 gs qs)[k]?=some r /\
  Calls prog 182 #[.int .i64 (k:Int),.pointer (some ⟨tb,0,none⟩),.pointer (some ⟨vb,0,none⟩),.pointer (some ⟨tb+1,0,none⟩),.pointer (some ⟨tb+1+1,0,none⟩)] wr fun e w' =>
   e=.returned (.agg #[.int .u64 r.1,.int .u64 r.2])/\Z8 (Also (Also (More P w w0) vb) (vb+1)) wr w'/\Tp w' (Also (Also (More P w w0) vb) (vb+1)) t (es++Ze gs++XI gs (k+1))):=hide fun k wr hk hkr RY ⟨B1,B3,B4,B2⟩ htr=>by
  obtain ⟨q,hq⟩:∃ q,qs[k]?=some q:=⟨_,List.getElem?_eq_getElem hk⟩;have hkw:Z8 P w wr:=zmq.out.trans (hkr.mono fun j h=>.inl (.inl h));refine ⟨hrec gs q,vS hq,?_⟩
  have h:=qx (Also (Also (More P w w0) vb) (vb+1)) t (es++Ze gs++XI gs k) gs GA gc qs QA qc V tb vb (tb+1) (tb+1+1) k q hq (HQP.out q (List.mem_of_getElem? hq)) (HQU.out q (List.mem_of_getElem? hq)) wr RY (HPQ.out _ HG.out)
   ⟨.inl (.inl l9.out),.inl (.inr rfl),.inl (.inl HMG.out),.inl (.inl dJ.out)⟩ (B1.cell rfl) (B2.cell rfl) (B3.cell rfl) (B4.cell rfl) ((HS.out.kept hkw).mono HPQ.out) (fun g hg=>⟨(Qc.out g hg).1,((Qc.out g hg).2.1.kept hkw).mono HPQ.out,(Qc.out g hg).2.2⟩) ((HQS.out.kept hkw).mono HPQ.out) (HW.out.kept hkw HG.out) htr (by
     rcases hl with h|h
     · exact .inl h
     · have h1:=TW gs k;have h2:=V9 gs;have h3:4161*k<=4161*qs.length:=Nat.mul_le_mul_left _ (by omega)
       exact .inr (by rw [List.length_append,List.length_append];omega))
  refine h.mono ?_;rintro e w' ⟨he,hk',ht'⟩;refine ⟨?_,hk',?_⟩
  · rw [he,hV];rfl
  · rw [MR,<- List.append_assoc];exact ht'
 have q0:=((Q0.kept hk1 dJ.out).alloc (.cells #[.int .u64 (Zy V)] 124)).q0 rfl;have q1:=Q2.q0 rfl;rw [hW2] at q1;have HT2:=hide T2;have HG2:=hide G2;have HQ2:=hide Q2;have HV2:=hide V2;have HO2:=hide O2;have zjf:=hide ht2;have zjb:=hide hQ2;have HVT:=hide hvt;have HZ2:=hide hz2;have HVV:=hide hV;have zjh:=hide hW2;have hmf:∀ (fn:Fn) (first cap:Array Value) (w:World),(Instr.makeFunc fn first cap).run prog w=.ok (.func fn first cap) w:=fun _ _ _ _=>rfl;clear T2 G2 Q2 V2 O2 ht2 hQ2 hvt hz2 hV T0 G0 Q0 hk1 ht1 hM2 hb2 t0 g0 hw0 HV;go_wp2_with fail;rw [<- hvb,<- zjh.out];clear hvb q0 q1 hmk
 go_loopw [21] (fun i wr=>∃ k:Nat,k<=qs.length/\i=.int .i64 k/\(Z6 wr tb 51 #[.pointer (Zu t)]/\Z6 wr (tb+1) 22 #[.slice GA gs.length gc]/\Z6 wr (tb+1+1) 71 #[.slice QA qs.length qc]/\Z6 wr vb 124 #[.int .u64 (Zy V)])/\Z6 wr (vb+1) 150 (QL (R9 gs qs k))/\Z8 (Also (More P w w0) vb) W2 wr/\Tp wr (Also (Also (More P w w0) vb) (vb+1)) t (es++Ze gs++XI gs k))
  (fun i _=>qs.length - (intOf i).toNat)
 case atStart=>exact ⟨0,Nat.zero_le _,rfl,⟨HT2.out,HG2.out,HQ2.out,HV2.out⟩,HO2.out,Z8.refl _ _,by simpa [XI] using zjf.out⟩
 case round =>
  obtain ⟨k,hk,rfl,oF,hO,hkr,htr⟩:=hrel;have RY:∀ j,Also (Also (More P w w0) vb) (vb+1) j->j<wr.heap.size:=fun j hj=>Nat.lt_of_lt_of_le (zjb.out j hj) hkr.size
  by_cases hlt:k<qs.length
  · obtain ⟨r,hr,hC⟩:=HIT.out k wr hlt hkr RY oF htr;have Uj:(k:Int)<(qs.length:Int):=(by omega);have HC:=hide hC;have HST:=hide (Jc hlt hr);have hsz:(QL (R9 gs qs k)).size=qs.length*2:=by
     have:=congrArg Array.size (Jc hlt hr);simp only [Array.size_setIfInBounds] at this;rw [this,OW];unfold R9;rw [List.length_append,List.length_take,List.length_replicate];have hl:(Y6 gs qs).length=qs.length:=(by unfold Y6;rw [List.length_map]);omega
    have Vu:=hide hsz;have L8:=hide oF;have HO:=hide hO;have uD:=hide hkr;clear hC hr hsz oF hO hkr htr RY;go_wp2_with fail;refine HC.out.mono ?_;rintro e w3 ⟨rfl,hk3,ht3⟩;have B3:=HO.out.kept hk3 (.inr rfl);have c0:=B3.cell (i:=k*2) (Array.getElem?_eq_getElem (by rw [Vu.out];omega));have c1:=B3.cell (i:=k*2+1) (Array.getElem?_eq_getElem (by rw [Vu.out];omega));have f0:=B3.frozen (k*2);have f1:=B3.frozen (k*2+1);have HB3:=hide B3;have HK3:=hide hk3;have HT3:=hide ht3
    have kb:∀ {g t cs},Also (More P w w0) vb g->Z6 wr g t cs->Z6 ((w3.setCell ⟨vb+1,k*2,none⟩ (.int .u64 r.1)).setCell ⟨vb+1,k*2+1,none⟩ (.int .u64 r.2)) g t cs:=fun {g t cs} hg hB=>by
     have hne:g≠vb+1:=fun e=>RU.out (e ▸ hg);exact ((hB.kept HK3.out (.inl hg)).far (p:=⟨vb+1,k*2,none⟩) hne _).far (p:=⟨vb+1,k*2+1,none⟩) hne _
    have zob:Z6 ((w3.setCell ⟨vb+1,k*2,none⟩ (.int .u64 r.1)).setCell ⟨vb+1,k*2+1,none⟩ (.int .u64 r.2)) tb 51 #[.pointer (Zu t)]/\Z6 ((w3.setCell ⟨vb+1,k*2,none⟩ (.int .u64 r.1)).setCell ⟨vb+1,k*2+1,none⟩ (.int .u64 r.2)) (tb+1) 22 #[.slice GA gs.length gc]/\Z6 ((w3.setCell ⟨vb+1,k*2,none⟩ (.int .u64 r.1)).setCell ⟨vb+1,k*2+1,none⟩ (.int .u64 r.2)) (tb+1+1) 71 #[.slice QA qs.length qc]/\Z6 ((w3.setCell ⟨vb+1,k*2,none⟩ (.int .u64 r.1)).setCell ⟨vb+1,k*2+1,none⟩ (.int .u64 r.2)) vb 124 #[.int .u64 (Zy V)] :=
     ⟨kb (.inl l9.out) L8.out.1,kb (.inl HMG.out) L8.out.2.1,kb (.inl dJ.out) L8.out.2.2.1,kb (.inr rfl) L8.out.2.2.2⟩
    have hO2:Z6 ((w3.setCell ⟨vb+1,k*2,none⟩ (.int .u64 r.1)).setCell ⟨vb+1,k*2+1,none⟩ (.int .u64 r.2)) (vb+1) 150 (QL (R9 gs qs (k+1))):=by
     have h:=(HB3.out.set (k*2) (.int .u64 r.1)).set (k*2+1) (.int .u64 r.2);rw [HST.out] at h;exact h
    have hk2:Z8 (Also (More P w w0) vb) W2 ((w3.setCell ⟨vb+1,k*2,none⟩ (.int .u64 r.1)).setCell ⟨vb+1,k*2+1,none⟩ (.int .u64 r.2)):=(uD.out.trans (HK3.out.mono fun j hj=>.inl hj)).trans ((Z8.setCell RU.out _ _ _).trans (Z8.setCell RU.out _ _ _));have ht2:Tp ((w3.setCell ⟨vb+1,k*2,none⟩ (.int .u64 r.1)).setCell ⟨vb+1,k*2+1,none⟩ (.int .u64 r.2)) (Also (Also (More P w w0) vb) (vb+1)) t (es++Ze gs++XI gs (k+1)):=(HT3.out.set (.inr rfl) _ _).set (.inr rfl) _ _;have TT:=hide (And.intro zob (And.intro hO2 (And.intro hk2 ht2)));clear kb zob hO2 hk2 ht2 B3 hk3 ht3;go_wp2;go_roundw
    case rel=>exact ⟨k+1,by omega,by go_num,TT.out⟩
    case measure=>simp [intOf];omega
  · obtain rfl:k=qs.length:=(by omega);have v0:=oF.2.2.2.q0 rfl;have hrow:R9 gs qs qs.length=Y6 gs qs:=by
     have hl:(Y6 gs qs).length=qs.length:=(by unfold Y6;rw [List.length_map]);unfold R9;rw [Nat.sub_self,List.replicate_zero,List.append_nil,List.take_of_length_le (by omega)]
    rw [hrow] at hO
    have HF:=hide (show Z8 P w wr/\Tp wr (Also P (vb+1)) t (es++Ze gs++XI gs qs.length)/\vb+1<wr.heap.size/\Z6 wr (vb+1) 150 (QL (Y6 gs qs)) from
     ⟨zmq.out.trans (hkr.mono fun j h=>.inl (.inl h)),htr.mono fun j hj=>by
       rcases hj with hj|hj
       · exact HPQ.out j hj
       · exact .inr hj,hO.lt,hO⟩)
    clear oF hO hkr htr RY hrow;go_wp2;go_ret2;exact ⟨vb+1,by rw [<- HVV.out];rfl,HF.out⟩
theorem zq(gs:List Gr)(GA:Option Addr)(gc:Nat)(n:Nat)(w:World)(hs:Sl w w.heap.size GA (rgCells (gs.map (·.1)))):
 Calls prog 151 #[.slice GA gs.length gc,.int .i64 (n:Int)] w fun e w'=>e=.returned (.int .i64 (Yf gs n))/\Below w.heap.size w w':=by
 have Qo:=PN (gs.map (·.1)) GA gc w hs;rw [List.length_map] at Qo;have HC:=hide Qo;obtain ⟨F,hF⟩:=eE (Zk (gs.map (·.1)));have HB:Hid (Yf gs n=if F≠0 then F else if n<1\/4096<n then 6 else 0):=by rw [hF];exact rfl
 rw [<- hF] at HC;clear Qo hF hs
 by_cases h0:F=0
 · by_cases h1:(n:Int)<1
   · have hr:Yf gs n=6:=(by rw [HB.out,if_neg (by simpa using h0),if_pos (by omega)]);rw [hr];subst h0;clear hr HB;go_enter func151,ntmps151;go_wp2_with fail;refine HC.out.mono ?_;rintro e w' ⟨rfl,hb⟩;go_wp2;go_ret;exact ⟨rfl,hb⟩
   · by_cases h2:(4096:Int)<(n:Int)
     · have hr:Yf gs n=6:=(by rw [HB.out,if_neg (by simpa using h0),if_pos (by omega)]);rw [hr];subst h0;clear hr HB;go_enter func151,ntmps151;go_wp2_with fail;refine HC.out.mono ?_;rintro e w' ⟨rfl,hb⟩;go_wp2;go_ret;exact ⟨rfl,hb⟩
     · have hr:Yf gs n=0:=(by rw [HB.out,if_neg (by simpa using h0),if_neg (by omega)]);rw [hr];subst h0;clear hr HB;go_enter func151,ntmps151;go_wp2_with fail;refine HC.out.mono ?_;rintro e w' ⟨rfl,hb⟩;go_wp2;go_ret;exact ⟨rfl,hb⟩
 · have hr:Yf gs n=F:=(by rw [HB.out,if_pos h0]);rw [hr];clear hr HB;go_enter func151,ntmps151;go_wp2_with fail;refine HC.out.mono ?_;rintro e w' ⟨rfl,hb⟩;go_wp2;go_ret;exact ⟨rfl,hb⟩
theorem Uz {fn:Func} {p u:Tmp} {tmps:Array Value} {w:World} {g:Nat} {v0 v1 v2:Value} (h:fn.results=#[.cell p 103,.tmp u])
 (hp:tmps.getD p undef=.pointer (some ⟨g,0,none⟩)) (hb:Z6 w g 103 #[v0,v1,v2]) :
 (results fn tmps).run prog w=.ok (.tuple #[.agg #[v0,v1,v2],tmps.getD u undef]) w:=by
 have c0:=hb.q0 rfl;have c1:=hb.q1 rfl;have c2:=hb.q2 rfl;have hp':tmps[p]?.getD undef=.pointer (some ⟨g,0,none⟩):=by rw [<- hp];simp
 simp [results,h,hp',go_sem,c0,c1,c2]
def y8(P:Nat->Prop)(t:Option (Nat × Nat))(es':List Ev)(r:lY × Int)(w:World)(e:Ending)(w':World):Prop :=
 ∃ A c,e=.returned (.tuple #[.agg #[.int .i64 r.1.val,.int .i64 r.1.cnt,.slice A r.1.recs.length c],.int .i64 r.2])/\Z8 P w w'/\Tp w' P t es'/\Sl w' w'.heap.size A (Zt r.1.recs)
theorem Sl.Pg{w:World}{g:Nat}{xs:List Value}{b o:Nat}(h:Sl w w.heap.size (some ⟨g,0,none⟩) xs)(hne:g≠b)(u:Value):Sl (w.setCell ⟨b,o,none⟩ u) (w.setCell ⟨b,o,none⟩ u).heap.size (some ⟨g,0,none⟩) xs :=
 (h.far (p:=⟨b,o,none⟩) (fun _ x hx=>by cases hx;exact hne) u).more (by simp)
theorem lu (P:Nat->Prop) (t:Option (Nat × Nat)) (es:List Ev) (gs:List Gr) (GA:Option Addr) (gc:Nat) (qs:List ((Int × Int) × Int)) (QA:Option Addr) (qc:Nat) (pI:∀ q∈qs,PJ q.1) (PW:∀ q∈qs,Uf q.2) (w:World) (hP:∀ k,P k->k<w.heap.size) (hg0:P 3)
 (hs:U2 w P GA (rgCells (gs.map (·.1)))) (hgs:xK w P gs) (Qh:U2 w P QA (Vs qs)) (hw:MW w) (ht:Tp w P t es) (hl:t=none\/es.length+4161*qs.length+(YZ (lg qs.length)).length<=600000) :
 Calls prog 104 #[.pointer (Zu t),.slice GA gs.length gc,.slice QA qs.length qc] w (y8 P t (es++Xg gs qs.length) (YL gs qs) w):=by
 obtain ⟨rb,hrb⟩:=eE w.heap.size;obtain ⟨w0,hw0⟩:=eE (w.alloc (.cells #[.int .i64 0,.int .i64 0,.slice none 0 0] 103));have hb0:=bE hw0;have R0:Z6 w0 rb 103 #[.int .i64 0,.int .i64 0,.slice none 0 0]:=by rw [hw0,hrb];exact Z6.new _ _ _
 have Mi:¬ P rb:=fun h=>by have:=hP _ h;omega
 have HC:=hide (zq gs GA gc qs.length w0 (((hs.sl hP).below hb0).more hb0.size))
 by_cases hc:Yf gs qs.length=0
 · have hn:1<=qs.length/\qs.length<=4096:=by
    unfold Yf at hc;split at hc
    · rename_i h;exact absurd hc h
    · split at hc
      · cases hc
      · omega
   have hv:YL gs qs=(⟨bif Y7 gs then 1 else 0,Xt (Y6 gs qs),XO Zh (Y6 gs qs)⟩,0):=(by unfold YL;rw [if_neg (by simpa using hc)]);have he:Xg gs qs.length=Ze gs++XI gs qs.length++XT qs.length++Y3 (YZ (lg qs.length)):=(by unfold Xg;rw [if_neg (by simpa using hc)]);rw [hv,he];rw [hc] at HC;have hrl:(Y6 gs qs).length=qs.length:=(by unfold Y6;rw [List.length_map]);have zvu:=hide (QH gs PW);have HP:=hide hP;have HG:=hide hg0;have HS:=hide hs;have Qc:=hide hgs;have HQS:=hide Qh;have HW:=hide hw;have HT:=hide ht;have HQP:=hide pI;have HQU:=hide PW;have mg:=hide hrl;have HN:=hide hn;have HB0:=hide hb0;have gJ:=hide R0;have Sb:=hide Mi;have HL:=hide hl;clear hv he hc hrl hP hg0 hs hgs Qh hw ht pI PW hn hb0 R0 Mi hl;go_enter func104,ntmps104;go_wp2_with fail;rw [<- hw0,<- hrb];have JL:=hide hrb;clear hw0 hrb;refine HC.out.mono ?_;rintro e w1 ⟨rfl,hb1⟩;have hB1:=Z9 HB0.out hb1;have zkm:=JL.out;have R1:=gJ.out.step hb1;have hK1:Z8 P w w1:=Z8.of_below hB1 HP.out
   have hP1:∀ j,Also P rb j->j<w1.heap.size:=fun j hj=>by
    rcases hj with hj|hj
    · exact Nat.lt_of_lt_of_le (HP.out j hj) hK1.size
    · subst hj;exact R1.lt
   have ht1:Tp w1 (Also P rb) t es:=(HT.out.add (R:=Also P rb) fun j hj=>by
    rcases hj with hj|hj
    · exact .inl hj
    · exact .inr (by omega)).step hB1
   have HCO:=hide (Df (Also P rb) t es gs GA gc qs QA qc HQP.out HQU.out HN.out.2 w1 hP1 (.inl HG.out) ((HS.out.kept hK1).mono fun j h=>.inl h) (fun g hg=>⟨(Qc.out g hg).1,((Qc.out g hg).2.1.kept hK1).mono fun j h=>.inl h,(Qc.out g hg).2.2⟩) ((HQS.out.kept hK1).mono fun j h=>.inl h) (HW.out.kept hK1 HG.out) ht1 (by rcases HL.out with h|h;exact .inl h;exact .inr (by omega)));have Np:=hide hK1;have HR1:=hide R1;have L9:=hide hP1;clear hb1 hB1 hK1 hP1 ht1 R1 HC zkm;go_wp2_with fail;refine HCO.out.mono ?_;rintro e w2 ⟨b,rfl,hk2,ht2,hbl,hB2⟩;have R2:=HR1.out.kept hk2 (.inr rfl)
   have hP2:∀ j,Also (Also P rb) b j->j<w2.heap.size:=fun j hj=>by
    rcases hj with hj|hj
    · exact Nat.lt_of_lt_of_le (L9.out j hj) hk2.size
    · subst hj;exact hbl
   have hs2:U2 w2 (Also (Also P rb) b) (some ⟨b,0,none⟩) (Zt (Y6 gs qs)):=.inr ⟨b,0,rfl,.inr rfl,fun j u hu=>by
    rw [Nat.zero_add]
    exact hB2.cell (by unfold QL;rw [List.getElem?_toArray];exact hu)⟩
   have HCT:=hide (uY (Also (Also P rb) b) t (es++Ze gs++XI gs qs.length) (Y6 gs qs) zvu.out (by rw [mg.out];exact HN.out.2) (some ⟨b,0,none⟩) qs.length w2 hP2 hs2 ht2 (by
    rcases HL.out with h|h
    · exact .inl h
    · have h1:=TW gs qs.length;have h2:=V9 gs
      exact .inr (by rw [List.length_append,List.length_append];omega)))
   rw [mg.out] at HCT;obtain ⟨V,hV⟩:=eE (Y7 gs);have uq:=hide (fun wk=>xV V wk);have HVV:=hide hV;rw [<- hV];obtain ⟨vt,hvt⟩:∃ vt:Int,vt=(bif V then 1 else 0):=⟨_,rfl⟩;have hvb:0<=vt/\vt<=1:=(by rw [hvt];cases V <;> decide);rw [<- hvt] at uq;have HVT:=hide hvt;obtain ⟨C,hC⟩:=eE (Xt (Y6 gs qs));have hcl:=QC _ zvu.out;rw [mg.out,<- hC] at hcl;rw [<- hC] at HCT;have fQ:=hide hC;have hn4:=HN.out.2;have hw1:IntKind.i64.wrap vt=vt:=(by rw [IntKind.wrap_i64];omega);have hw2:IntKind.i64.wrap (C:Int)=(C:Int):=(by rw [IntKind.wrap_i64];omega);have HR2:=hide R2;have mR:=hide hk2;have HP2:=hide hP2;have HS2:=hide hs2;have HB2:=hide hB2;clear hV hvt hC hk2 ht2 hbl hB2 R2 hP2 hs2 HCO;go_wp2_with fail;refine (uq.out _).mono ?_;rintro e w2' ⟨rfl,rfl⟩;go_wp2_with fail;refine HCT.out.mono ?_;rintro e w3 ⟨rfl,hk3,ht3⟩;obtain ⟨ab,hab⟩:=eE w3.heap.size;obtain ⟨w4,hw4⟩:=eE (w3.alloc (.cells #[.int .i64 vt,.int .i64 (C:Int),.slice none 0 0] 103));have hb4:=bE hw4;have A4:Z6 w4 ab 103 #[.int .i64 vt,.int .i64 (C:Int),.slice none 0 0]:=(by rw [hw4,hab];exact Z6.new _ _ _);have hP3:∀ j,Also (Also P rb) b j->j<w3.heap.size:=fun j hj=>Nat.lt_of_lt_of_le (HP2.out j hj) hk3.size
   have CB:∀ j,Also (Also (Also P rb) b) ab j->j<w4.heap.size:=fun j hj=>by
    rcases hj with hj|hj
    · exact Nat.lt_of_lt_of_le (hP3 j hj) hb4.size
    · subst hj;exact A4.lt
   have iQ:Z8 (Also (Also P rb) b) w2 w4:=hk3.trans (Z8.of_below hb4 hP3);have R4:=HR2.out.kept iQ (.inl (.inr rfl))
   have Jz:Tp w4 (Also (Also (Also P rb) b) ab) t (es++Ze gs++XI gs qs.length++XT qs.length):=(ht3.add (R:=Also (Also (Also P rb) b) ab) fun j hj=>by
    rcases hj with hj|hj
    · exact .inl hj
    · exact .inr (by omega)).step hb4
   have HSO:=hide (sD (Also (Also (Also P rb) b) ab) t (es++Ze gs++XI gs qs.length++XT qs.length) (Y6 gs qs) zvu.out (by rw [mg.out];exact HN.out.1) (by rw [mg.out];exact HN.out.2) (some ⟨b,0,none⟩) qs.length w4 CB ((HS2.out.kept iQ).mono fun j h=>.inl h) Jz (by
    rcases HL.out with h|h
    · exact .inl h
    · have h1:=TW gs qs.length;have h2:=V9 gs;have h3:=Om qs.length
      exact .inr (by rw [mg.out,List.length_append,List.length_append,List.length_append];omega)))
   rw [mg.out] at HSO;have zpe:rb<ab:=(by have:=HR2.out.lt;have:=hk3.size;omega);have HA4:=hide A4;have HR4:=hide R4;have zis:=hide iQ;have uH:=hide CB;have fJ:=hide hab;have znb:=hide zpe;clear hk3 ht3 hb4 A4 hP3 CB iQ R4 Jz HCT zpe;go_wp2_with fail;rw [<- hw4,<- hab];clear hw4 hab;refine HSO.out.mono ?_;rintro e w5 ⟨sb,rfl,hk5,Rf,zxd,zpj⟩;have A5:=HA4.out.kept hk5 (.inr rfl);have R5:=HR4.out.kept hk5 (.inl (.inl (.inr rfl)));have z0:=A5.q0 rfl;have z1:=A5.q1 rfl;have z2:=A5.q2 rfl;have f2:=A5.frozen 2;have y0:=R5.q0 rfl;have y1:=R5.q1 rfl;have y2:=R5.q2 rfl;have g0:=R5.frozen 0;have g1:=R5.frozen 1;have g2:=R5.frozen 2;have hne1:¬ rb=ab:=(by have:=znb.out;omega);have hne2:¬ ab=rb:=(by omega);have zou:sb≠ab:=fun h=>zxd (.inr h);have zov:sb≠rb:=fun h=>zxd (.inl (.inl (.inr h)));have HNS:=hide (And.intro zou zov);have HRR:=hide (((R5.far (p:=⟨ab,2,none⟩) (by dsimp only;omega) (.slice (some ⟨sb,0,none⟩) qs.length qs.length)).set 0 (.int .i64 vt)).set 1 (.int .i64 (C:Int)));have hKK:Z8 P w w5:=(Np.out.trans (mR.out.mono fun j h=>.inl h)).trans ((zis.out.mono fun j h=>.inl (.inl h)).trans (hk5.mono fun j h=>.inl (.inl (.inl h))));have HKK:=hide hKK;have HT5:=hide (Rf.mono (R:=P) fun j h=>.inl (.inl (.inl h)));have HSL:=hide zpj
   have HTM:Hid (Tp w5 (Also (Also P rb) ab) t (es++Ze gs++XI gs qs.length++XT qs.length++Y3 (YZ (lg qs.length)))):=Rf.mono fun j h=>by
    rcases h with (h|h)|h
    · exact .inl (.inl (.inl h))
    · exact .inl (.inl (.inr h))
    · exact .inr h
   clear hk5 Rf zxd zpj A5 R5 hKK zou zov;go_wp2;refine bodyPost_ret (Uz rfl rfl (HRR.out.set 2 (.slice (some ⟨sb,0,none⟩) qs.length qs.length))) rfl ?_;have hil:(XO Zh (Y6 gs qs)).length=qs.length:=(by rw [UK,mg.out]);have hab':¬ P ab:=fun h=>by have:=HP.out _ h;have:=znb.out;have:=JL.out;omega
   refine ⟨some ⟨sb,0,none⟩,qs.length,?_,?_,?_,?_⟩
   · rw [hil,<- HVV.out,<- HVT.out,<- fQ.out];rfl
   · exact HKK.out.trans ((Z8.setCell hab' _ _ _).trans ((Z8.setCell Sb.out _ _ _).trans ((Z8.setCell Sb.out _ _ _).trans (Z8.setCell Sb.out _ _ _))))
   · have h:=(((HTM.out.set (.inr rfl) 2 (.slice (some ⟨sb,0,none⟩) qs.length qs.length)).set (.inl (.inr rfl)) 0 (.int .i64 vt)).set (.inl (.inr rfl)) 1 (.int .i64 (C:Int))).set (.inl (.inr rfl)) 2 (.slice (some ⟨sb,0,none⟩) qs.length qs.length);have h2:=h.mono (R:=P) fun j h=>.inl (.inl h);simp only [List.append_assoc] at h2 ⊢;exact h2
   · exact (((HSL.out.Pg HNS.out.1 _).Pg HNS.out.2 _).Pg HNS.out.2 _).Pg HNS.out.2 _
 · have hv:YL gs qs=(Wq,Yf gs qs.length):=(by unfold YL;rw [if_pos hc]);have he:Xg gs qs.length=[]:=(by unfold Xg;rw [if_pos hc]);rw [hv,he,List.append_nil];obtain ⟨F,hF⟩:=eE (Yf gs qs.length);rw [<- hF] at hc HC ⊢;have HP:=hide hP;have HT:=hide ht;have HB0:=hide hb0;have gJ:=hide R0;have Sb:=hide Mi;clear hv he hF hP hg0 hs hgs Qh hw ht pI PW hb0 R0 Mi hl;go_enter func104,ntmps104;go_wp2_with fail;rw [<- hw0,<- hrb];have JL:=hide hrb;clear hw0 hrb;refine HC.out.mono ?_;rintro e w1 ⟨rfl,hb1⟩;have R1:=gJ.out.step hb1;have y0:=R1.q0 rfl;have y1:=R1.q1 rfl;have y2:=R1.q2 rfl;have g0:=R1.frozen 0;have g1:=R1.frozen 1;have g2:=R1.frozen 2;have HB1:=hide (Z9 HB0.out hb1);have HRR:=hide (((R1.set 0 (.int .i64 0)).set 1 (.int .i64 0)).set 2 (.slice none 0 0));clear R1 hb1 HC;go_wp2;refine bodyPost_ret (Uz rfl rfl HRR.out) rfl ?_;have hrl:w.heap.size<=rb:=(by rw [JL.out];exact Nat.le_refl _);have hbf:=((HB1.out.setCell (p:=⟨rb,0,none⟩) hrl (.int .i64 0)).setCell (p:=⟨rb,1,none⟩) hrl (.int .i64 0)).setCell (p:=⟨rb,2,none⟩) hrl (.slice none 0 0);exact ⟨none,0,rfl,Z8.of_below hbf HP.out,HT.out.step hbf,Sl.nil _ _ _⟩
theorem F8(x:Int × Int)(hx:Pp x)(w:World):Calls prog 169 #[.agg #[.int .u64 x.1,.int .u64 x.2]] w fun e w'=>e=.returned (.agg #[.int .u64 x.1,.int .u64 x.2])/\Below w.heap.size w w':=by
 obtain ⟨l,d⟩:=x;rcases hx with ⟨rfl,h2,h3⟩|h
 · dsimp only;go_enter func169,ntmps169;go_wp2;exact bodyPost_ret (v:=.agg #[.int .u64 1,.int .u64 d]) (by simp [results,Tryz.results169,go_sem]) rfl ⟨rfl,by repeat first|exact Below.refl _ _|refine Z7 ?_ _⟩
 · cases h;dsimp only;go_enter func169,ntmps169;go_wp2;exact bodyPost_ret (v:=.agg #[.int .u64 0,.int .u64 0]) (by simp [results,Tryz.results169,go_sem]) rfl ⟨rfl,by repeat first|exact Below.refl _ _|refine Z7 ?_ _⟩
theorem bN(x y:Int × Int)(hx:Pp x)(hy:Pp y)(w:World):Calls prog 170 #[.agg #[.int .u64 x.1,.int .u64 x.2],.agg #[.int .u64 y.1,.int .u64 y.2]] w fun e w'=>e=.returned (.bool (decide (Zh x<Zh y)))/\Below w.heap.size w w':=by
 rw [<- Ja hx hy];have HX:=hide (fun w=>F8 x hx w);have HY:=hide (fun w=>F8 y hy w);have H0:=hide (And.intro hx hy);clear hx hy;obtain ⟨b0,hb0⟩:=eE w.heap.size;obtain ⟨w0,hw0⟩:=eE ((w.alloc (.cells #[.int .u64 x.1,.int .u64 x.2] 150)).alloc (.cells #[.int .u64 y.1,.int .u64 y.2] 150));have znz:=bF hw0;have Y0:Z6 w0 (b0+1) 150 #[.int .u64 y.1,.int .u64 y.2]:=by rw [hw0,hb0];exact Z6.new2 _ _ _ _
 go_enter func170,ntmps170;go_wp2_with fail;rw [<- hw0,<- hb0];have HB0:=hide hb0;clear hw0 hb0;refine (HX.out w0).mono ?_;rintro e w1 ⟨rfl,hb1⟩;obtain ⟨b2,hb2⟩:=eE w1.heap.size;obtain ⟨w2,hw2⟩:=eE (w1.alloc (.cells #[.int .u64 x.1,.int .u64 x.2] 150));have HB2:Below w.heap.size w w2:=by rw [hw2];exact Z7 (Z9 znz hb1) _
 have X2:Z6 w2 b2 150 #[.int .u64 x.1,.int .u64 x.2]:=by rw [hw2,hb2];exact Z6.new _ _ _
 have Y2:Z6 w2 (b0+1) 150 #[.int .u64 y.1,.int .u64 y.2]:=by rw [hw2];exact (Y0.step hb1).alloc _
 have y0:w2.cell? ⟨b0+1,0,none⟩=some (.int .u64 y.1):=Y2.q0 rfl;have y1:w2.cell? ⟨b0+1,1,none⟩=some (.int .u64 y.2):=Y2.q1 rfl;rw [hw2] at y0 y1;have HB:=hide hb2;clear znz hb1 hb2 Y0 Y2;go_wp2_with fail;rw [<- hw2,<- HB.out];clear hw2 y0 y1;refine (HY.out w2).mono ?_;rintro e w3 ⟨rfl,hb3⟩;have X3:=X2.step hb3;have HB3:=Z9 HB2 hb3;obtain ⟨w4,hw4⟩:=eE (w3.alloc (.cells #[.int .u64 y.1,.int .u64 y.2] 150));have Qv:Below w.heap.size w w4:=by rw [hw4];exact Z7 HB3 _
 have X4:Z6 w4 b2 150 #[.int .u64 x.1,.int .u64 x.2]:=by rw [hw4];exact X3.alloc _
 have x0:w4.cell? ⟨b2,0,none⟩=some (.int .u64 x.1):=X4.q0 rfl;have x1:w4.cell? ⟨b2,1,none⟩=some (.int .u64 x.2):=X4.q1 rfl;rw [hw4] at x0 x1 Qv;obtain ⟨hx,hy⟩:=H0.out;clear X2 X3 X4 hb3 hw4 H0 HX HY HB3 HB2;obtain ⟨a,b⟩:=x;obtain ⟨c,d⟩:=y;dsimp only at *;rcases hx with ⟨h1,h2,h3⟩|h1 <;> rcases hy with ⟨k1,k2,k3⟩|k1
 · subst h1;subst k1;have hlt:(b<d)\/¬ (b<d):=(by omega);rcases hlt with hlt|hlt
   all_goals
    go_wp2;go_ret;refine ⟨?_,Qv⟩;simp [hlt]
 · cases k1;subst h1;go_wp2;go_ret;exact ⟨by simp,Qv⟩
 · cases h1;subst k1;go_wp2;go_ret;exact ⟨by simp,Qv⟩
 · cases h1;cases k1;go_wp2;go_ret;exact ⟨by simp,Qv⟩
theorem kU(rs:List (Int × Int))(hcl:∀ r∈rs,Pp r)(hn:rs.length<=4096)(A:Option Addr)(c:Nat)(w:World)(hs:Sl w w.heap.size A (Zt rs)):
 Calls prog 139 #[.slice A rs.length c] w fun e w'=>e=.returned (.int .u64 (Xt rs:Int))/\Below w.heap.size w w':=by
 have HS:=hide hs;have RN:=hide hcl;clear hs hcl;go_enter func139,ntmps139;go_wp2
 go_loopw [3,4] (fun u i wr=>∃ k:Nat,k<=rs.length/\i=.int .i64 k/\u=.int .u64 (Xt (rs.take k):Int)/\Below w.heap.size w wr)
  (fun _ i _=>rs.length - (intOf i).toNat)
 case atStart=>exact ⟨0,Nat.zero_le _,rfl,rfl,Below.refl _ _⟩
 case round =>
  obtain ⟨k,hk,rfl,rfl,hbr⟩:=hrel
  by_cases hlt:k<rs.length
  · have Uj:(k:Int)<(rs.length:Int):=(by omega);obtain ⟨r,hr⟩:∃ r,rs[k]?=some r:=⟨_,List.getElem?_eq_getElem hlt⟩;have hrc:=RN.out r (List.mem_of_getElem? hr);obtain ⟨b,off,rfl,hb,c0,c1⟩:=(HS.out.below hbr).Es hr;have hcs:=Hg (rs.take k) r;have htk:rs.take (k+1)=rs.take k++[r]:=(by rw [List.take_add_one,hr];rfl);rw [<- htk] at hcs;have hle:=QC (rs.take k) (fun x hx=>RN.out x (List.mem_of_mem_take hx));rw [List.length_take] at hle;have hr1:0<=r.1/\r.1<=1:=by
     rcases hrc with ⟨h,_⟩|h
     · rw [h];decide
     · rw [h];decide
    have hbit:IntKind.u64.wrap (r.1.tmod 2)=r.1:=by
     rcases hrc with ⟨h,_⟩|h
     · rw [h];rfl
     · rw [h];rfl
    have hw:IntKind.u64.wrap ((Xt (rs.take k):Int)+r.1)=(Xt (rs.take (k+1)):Int):=(by rw [IntKind.wrap_u64,hcs];omega);obtain ⟨C0,hC0⟩:=eE (Xt (rs.take k));obtain ⟨C1,hC1⟩:=eE (Xt (rs.take (k+1)));have Tm:=hide hC1;rw [<- hC0] at hw;rw [<- hC1] at hw;rw [<- hC0];obtain ⟨r1,r2⟩:=r;dsimp only at *;clear hr hcs htk hle hrc hC0 hC1;go_wp2;go_roundw
    case rel=>exact ⟨k+1,by omega,by go_num,by rw [show r1 % 2=r1 by omega,hw,Tm.out],hbr⟩
    case measure=>simp [intOf];omega
  · obtain rfl:k=rs.length:=(by omega);rw [List.take_length];go_wp2;go_ret;exact ⟨rfl,hbr⟩
end
end Go.Proofs.YtfljlmleiggmjaaGreatDoor