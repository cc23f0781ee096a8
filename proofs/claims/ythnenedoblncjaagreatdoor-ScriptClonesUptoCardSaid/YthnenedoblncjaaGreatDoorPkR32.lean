/- Batch BatchRun Handle ServeMath -/
import Derived.Test.YthnenedoblncjaaGreatDoorPkR07
import Derived.Test.YthnenedoblncjaaGreatDoorPkR09
import Derived.Test.YthnenedoblncjaaGreatDoorPkR25
import Derived.Test.YthnenedoblncjaaGreatDoorPkR30
set_option maxRecDepth 1000000
set_option maxHeartbeats 8000000
namespace Go.Proofs.YthnenedoblncjaaGreatDoor
open Go.Proofs.Tryz
section
open Go.RowKit Go.Shelf
theorem wE(n:Nat):Xb (n+1)=Xb n++[(1,(n:Int),0)]:=by simp [Xb,List.range_succ]
theorem Oh(n:Nat):(Xb n).length=n:=by simp [Xb]
theorem ou(l:List (Int × Int))(r:Int × Int):VB (l++[r])=VB l+r.1.toNat:=by simp [VB]
theorem MI(gs:List Gr)(n:Nat):XZ gs (n+1)=XZ gs n++((8,(n:Int),0)::YI gs):=by simp [XZ,List.range_succ]
theorem L8(gs:List Gr):(YI gs).length<=4160:=by
 unfold YI;split
 · rename_i h
   have h1:=Q5 0 gs;have h2:gs.length<=64:=by
    unfold YD at h;split at h
    · omega
    · rename_i h2;rw [List.length_map] at h2;omega
   omega
 · simp
theorem Uj(gs:List Gr)(n:Nat):(XZ gs n).length<=4161*n:=by
 induction n with
 | zero=>simp [XZ]
 | succ n ih =>
   have:=L8 gs;rw [MI,List.length_append,List.length_cons];omega
theorem zut{w:World}{B:Nat}{A:Option Addr}{l:List (Int × Int)}{k:Nat}{r:Int × Int}(h:Sl w B A (Zb l))(hk:l[k]?=some r):
 ∃ b off,A=some ⟨b,off,none⟩/\w.cell? ⟨b,off+k*2,none⟩=some (.int .u64 r.1)/\w.cell? ⟨b,off+k*2+1,none⟩=some (.int .u64 r.2):=by
 obtain ⟨b,off,hA,_,h0,h1⟩:=h.aR hk;exact ⟨b,off,hA,h0,h1⟩
theorem oG(P:Nat->Prop)(t:Option (Nat × Nat))(es:List Ev)(rs:List (Int × Int))(hcl:∀ r∈rs,LK r)(hn:rs.length<=4096)(A:Option Addr)(c:Nat)(w:World)(hP:∀ k,P k->k<w.heap.size)(hs:Wp w P A (Zb rs))(ht:Tp w P t es)(hl:t=none\/es.length<=990000):
 Calls prog 207 #[.pointer (ZG t),.slice A rs.length c] w fun e w'=>e=.returned (.int .u64 (VB rs:Int))/\Z9 P w w'/\Tp w' P t (es++Xb rs.length):=by
 have HP:=hide hP;have HS:=hide hs;have HT:=hide ht;have IG:=hide hcl;clear hP hs ht hcl;go_enter func207,ntmps207;go_wp2
 go_loopw [5,10] (fun u i wr=>∃ k:Nat,k<=rs.length/\i=.int .i64 k/\u=.int .u64 (VB (rs.take k):Int)/\Z9 P w wr/\Tp wr P t (es++Xb k))
  (fun _ i _=>rs.length - (intOf i).toNat)
 case atStart=>exact ⟨0,Nat.zero_le _,rfl,rfl,Z9.refl _ _,by simpa [Xb] using HT.out⟩
 case round =>
  obtain ⟨k,hk,rfl,rfl,hkp,htp⟩:=hrel
  by_cases hlt:k<rs.length
  · have Nv:(k:Int)<(rs.length:Int):=(by omega);obtain ⟨r,hr⟩:∃ r,rs[k]?=some r:=⟨_,List.getElem?_eq_getElem hlt⟩;have hrc:=IG.out r (List.mem_of_getElem? hr);have hu:=tQ hrc;have Ma:∀ j,P j->j<wr.heap.size:=fun j hj=>Nat.lt_of_lt_of_le (HP.out j hj) hkp.size;obtain ⟨b,off,rfl,c0,c1⟩:=zut ((HS.out.kept hkp).sl Ma) hr;have hbit:r.1 % 2=r.1:=by
     rcases hrc with ⟨h,_⟩|h
     · rw [h];rfl
     · rw [h];rfl
    have nI:=hide (fun wk=>Am r.1 hu.1.1 hu.1.2 wk);rw [hbit] at nI;have hcs:=ou (rs.take k) r;have htk:rs.take (k+1)=rs.take k++[r]:=(by rw [List.take_add_one,hr];rfl);rw [<- htk] at hcs;have hle:=Oj (rs.take k) (fun x hx=>IG.out x (List.mem_of_mem_take hx));rw [List.length_take] at hle;have hr1:0<=r.1/\r.1<=1:=by
     rcases hrc with ⟨h,_⟩|h
     · rw [h];decide
     · rw [h];decide
    have hw:IntKind.u64.wrap ((VB (rs.take k):Int)+r.1)=(VB (rs.take (k+1)):Int):=(by rw [IntKind.wrap_u64,hcs];omega);obtain ⟨C0,hC0⟩:=eE (VB (rs.take k));obtain ⟨C1,hC1⟩:=eE (VB (rs.take (k+1)));have nJ:=hide hC1;rw [<- hC0] at hw;rw [<- hC1] at hw;rw [<- hC0];obtain ⟨r1,r2⟩:=r;dsimp only at *;obtain ⟨xb,hxb⟩:=eE wr.heap.size;obtain ⟨w0,hw0⟩:=eE (wr.alloc (.cells #[.int .u64 r1,.int .u64 r2] 148));have hb0:=bE hw0;have X0:Z7 w0 xb 148 #[.int .u64 r1,.int .u64 r2]:=by rw [hw0,hxb];exact Z7.new _ _ _
    have Sm:∀ j,Also P xb j->j<w0.heap.size:=fun j hj=>by
     rcases hj with hj|hj
     · exact Nat.lt_of_lt_of_le (Ma j hj) hb0.size
     · subst hj;exact X0.lt
    have ht0:Tp w0 (Also P xb) t (es++Xb k):=(htp.add (R:=Also P xb) fun j hj=>by
     rcases hj with hj|hj
     · exact .inl hj
     · exact .inr (by omega)).step hb0
    have RY:=hide (yJ (Also P xb) t (es++Xb k) 1 (k:Int) 0 w0 Sm ht0 (by rcases hl with h|h;exact .inl h;exact .inr (by rw [List.length_append,Oh];omega)) (by unfold Zg;omega));have NV:=hide (hkp.trans (Z9.of_below hb0 Ma));have HX0:=hide X0;have Qa:=hide (wE k);clear hrc hu hbit hcs htk hle hr1 hkp htp hC0 hC1 hr Ma Sm ht0 hb0 X0;go_wp2_with fail;rw [<- hw0,<- hxb];clear hw0 hxb;refine RY.out.mono ?_;rintro e w1 ⟨rfl,hk1,_,ht1⟩;have X1:=HX0.out.kept hk1 (.inr rfl);have x0:=X1.q0 rfl;dsimp at x0;have Po:=hide (NV.out.trans (hk1.mono fun j hj=>.inl hj));have HT1:=hide (ht1.mono (R:=P) fun j hj=>.inl hj);clear hk1 ht1 X1 c0 c1 RY;go_wp2_with fail;refine (nI.out _).mono ?_;rintro e w2 ⟨rfl,rfl⟩;go_wp2;go_roundw
    case rel=>exact ⟨k+1,by omega,by go_num,by rw [<- nJ.out],Po.out,by rw [Qa.out,<- List.append_assoc];exact HT1.out⟩
    case measure=>simp [intOf];omega
  · obtain rfl:k=rs.length:=(by omega);rw [List.take_of_length_le (Nat.le_refl _)];go_wp2;go_ret;exact ⟨rfl,hkp,htp⟩
theorem jY(P:Nat->Prop)(t:Option (Nat × Nat))(es:List Ev)(gs:List Gr)(GA:Option Addr)(gc:Nat)(p:Pt)(hp:PJ p)(w:World)(hP:∀ k,P k->k<w.heap.size)(hg0:P 8)(hs:Wp w P GA (rgCells (gs.map (·.1))))(hgs:vC w P gs)(hw:MW w)(ht:Tp w P t es)(hl:t=none\/es.length<=890000):
 Calls prog 197 #[.pointer (ZG t),.slice GA gs.length gc,.agg #[.int .i64 p.1,.int .i64 p.2]] w fun e w'=>e=.returned (.int .u64 (ZH (WH gs p)))/\Z9 P w w'/\Tp w' P t (es++YI gs):=by
 rcases hl with rfl|hl
 · refine (Vw P none [] gs GA gc p hp w hP hg0 hs hgs hw trivial (by simp)).mono ?_;rintro e w' ⟨h1,h2,_⟩;exact ⟨h1,h2,trivial⟩
 · exact Vw P t es gs GA gc p hp w hP hg0 hs hgs hw ht hl
abbrev nN(b1 b2 b3 b4 b o:Nat)(ta:Option Addr)(V:Bool)(GA QA:Option Addr)(gn gc qn qc:Nat)(q1 q2 q3:Int)(w:World):Prop :=
 w.cell? ⟨b1,0,none⟩=some (.pointer ta)/\w.cell? ⟨b2,0,none⟩=some (.int .u64 (ZH V))/\w.cell? ⟨b3,0,none⟩=some (.slice GA gn gc)/\w.cell? ⟨b4,0,none⟩=some (.slice QA qn qc) /\
  w.cell? ⟨b,o,none⟩=some (.int .i64 q1)/\w.cell? ⟨b,o+1,none⟩=some (.int .i64 q2)/\w.cell? ⟨b,o+2,none⟩=some (.int .u64 q3)
theorem nN.keep{b1 b2 b3 b4 b o:Nat}{ta:Option Addr}{V:Bool}{GA QA:Option Addr}{gn gc qn qc:Nat}{q1 q2 q3:Int}{P:Nat->Prop}{w w':World}(h:nN b1 b2 b3 b4 b o ta V GA QA gn gc qn qc q1 q2 q3 w)(hk:Z9 P w w')(hb:P b1/\P b2/\P b3/\P b4/\P b):nN b1 b2 b3 b4 b o ta V GA QA gn gc qn qc q1 q2 q3 w':=by
 obtain ⟨h1,h2,h3,h4,h5,h6,h7⟩:=h;exact ⟨(hk.cell hb.1 _).trans h1,(hk.cell hb.2.1 _).trans h2,(hk.cell hb.2.2.1 _).trans h3,(hk.cell hb.2.2.2.1 _).trans h4,(hk.cell hb.2.2.2.2 _).trans h5,(hk.cell hb.2.2.2.2 _).trans h6,(hk.cell hb.2.2.2.2 _).trans h7⟩
theorem nN.zjd{b1 b2 b3 b4 b o:Nat}{ta:Option Addr}{V:Bool}{GA QA:Option Addr}{gn gc qn qc:Nat}{q1 q2 q3:Int}{w w':World}(h:nN b1 b2 b3 b4 b o ta V GA QA gn gc qn qc q1 q2 q3 w)(hb:Below w.heap.size w w'):nN b1 b2 b3 b4 b o ta V GA QA gn gc qn qc q1 q2 q3 w':=by
 have on:∀ {b o:Nat} {v:Value},w.cell? ⟨b,o,none⟩=some v->w'.cell? ⟨b,o,none⟩=some v:=fun h=>(hb.cell (p:=⟨_,_,none⟩) (Zz h)).trans h;obtain ⟨h1,h2,h3,h4,h5,h6,h7⟩:=h;exact ⟨on h1,on h2,on h3,on h4,on h5,on h6,on h7⟩
theorem j4(a b:Bool):bits BinOp.and IntKind.u64 (ZH a) (ZH b)=ZH (a && b):=by cases a <;> cases b <;> decide
theorem jH (P:Nat->Prop) (t:Option (Nat × Nat)) (es:List Ev) (gs:List Gr) (GA:Option Addr) (gc:Nat) (qs:List ((Int × Int) × Int)) (QA:Option Addr) (qc:Nat) (V:Bool) (b1 b2 b3 b4:Nat) (i:Nat) (q:(Int × Int) × Int) (hq:qs[i]?=some q) (pU:PJ q.1) (zU:Ua q.2) (w:World) (hP:∀ k,P k->k<w.heap.size) (hg0:P 8)
 (hb:P b1/\P b2/\P b3/\P b4) (h1:w.cell? ⟨b1,0,none⟩=some (.pointer (ZG t))) (h2:w.cell? ⟨b2,0,none⟩=some (.int .u64 (ZH V))) (h3:w.cell? ⟨b3,0,none⟩=some (.slice GA gs.length gc)) (h4:w.cell? ⟨b4,0,none⟩=some (.slice QA qs.length qc))
 (hs:Wp w P GA (rgCells (gs.map (·.1)))) (hgs:vC w P gs) (MF:Wp w P QA (XC qs)) (hw:MW w) (ht:Tp w P t es) (hl:t=none\/es.length<=880000) :
 Calls prog 275 #[.int .i64 (i:Int),.pointer (some ⟨b1,0,none⟩),.pointer (some ⟨b2,0,none⟩),.pointer (some ⟨b3,0,none⟩),.pointer (some ⟨b4,0,none⟩)] w fun e w' =>
  e=.returned (.agg #[.int .u64 (if (V && WH gs q.1)=true then (1,q.2) else (0,0):Int × Int).1,.int .u64 (if (V && WH gs q.1)=true then (1,q.2) else (0,0):Int × Int).2])/\Z9 P w w'/\Tp w' P t (es++((8,(i:Int),0)::YI gs)):=by
 obtain ⟨rb,hrb⟩:=eE w.heap.size;obtain ⟨w0,hw0⟩:=eE (w.alloc (.cells #[.int .u64 0,.int .u64 0] 148));have hb0:=bE hw0;have R0:Z7 w0 rb 148 #[.int .u64 0,.int .u64 0]:=by rw [hw0,hrb];exact Z7.new _ _ _
 have Sm:∀ j,Also P rb j->j<w0.heap.size:=fun j hj=>by
  rcases hj with hj|hj
  · exact Nat.lt_of_lt_of_le (hP j hj) hb0.size
  · subst hj;exact R0.lt
 have ht0:Tp w0 (Also P rb) t es:=(ht.add (R:=Also P rb) fun j hj=>by
  rcases hj with hj|hj
  · exact .inl hj
  · exact .inr (by omega)).step hb0
 have hk0:Z9 P w w0:=Z9.of_below hb0 hP;have hlt:i<qs.length:=(List.getElem?_eq_some_iff.1 hq).1;have Nv:(i:Int)<(qs.length:Int):=by omega
 have nk:∃ b off,QA=some ⟨b,off,none⟩/\P b/\w.cell? ⟨b,off+i*3,none⟩=some (.int .i64 q.1.1)/\w.cell? ⟨b,off+i*3+1,none⟩=some (.int .i64 q.1.2)/\w.cell? ⟨b,off+i*3+2,none⟩=some (.int .u64 q.2):=by
  obtain ⟨b,off,hA,_,e0,e1,e2⟩:=(MF.sl hP).qu hq;refine ⟨b,off,hA,?_,e0,e1,e2⟩;rcases MF with h|⟨b',off',hA',hb',_⟩
  · exfalso
    have hl:=Y5 (fun q:(Int × Int) × Int=>[Value.int .i64 q.1.1,.int .i64 q.1.2,.int .u64 q.2]) 3 (fun _=>rfl) qs;have:(XC qs).length=0:=(by rw [h];rfl);unfold XC at this;omega
  · rw [hA] at hA';cases hA';exact hb'
 obtain ⟨b,off,rfl,hPb,e0,e1,e2⟩:=nk;have hS:nN b1 b2 b3 b4 b (off+i*3) (ZG t) V GA (some ⟨b,off,none⟩) gs.length gc qs.length qc q.1.1 q.1.2 q.2 w:=⟨h1,h2,h3,h4,e0,e1,e2⟩;have hbs:P b1/\P b2/\P b3/\P b4/\P b:=⟨hb.1,hb.2.1,hb.2.2.1,hb.2.2.2,hPb⟩;have hS0:=hS.keep hk0 hbs;have RY:=hide (yJ (Also P rb) t es 8 (i:Int) 0 w0 Sm ht0 (by rcases hl with h|h;exact .inl h;exact .inr (by omega)) (by unfold Zg;omega))
 have HME:Hid (∀ wk,Z9 P w wk->(∀ j,Also P rb j->j<wk.heap.size)->Tp wk (Also P rb) t (es++[(8,(i:Int),0)])->Calls prog 197 #[.pointer (ZG t),.slice GA gs.length gc,.agg #[.int .i64 q.1.1,.int .i64 q.1.2]] wk fun e w'=>e=.returned (.int .u64 (ZH (WH gs q.1)))/\Z9 (Also P rb) wk w'/\Tp w' (Also P rb) t (es++[(8,(i:Int),0)]++YI gs)) :=
  hide fun wk hk h0 h5=>jY (Also P rb) t _ gs GA gc q.1 pU wk h0 (.inl hg0) ((hs.kept hk).mono fun j hj=>.inl hj) (fun g hg=>⟨(hgs g hg).1,((hgs g hg).2.1.kept hk).mono fun j hj=>.inl hj,(hgs g hg).2.2⟩) (hw.kept hk hg0) h5 (by rcases hl with h|h;exact .inl h;exact .inr (by rw [List.length_append];simp only [List.length_singleton];omega))
 obtain ⟨M,hM⟩:=eE (WH gs q.1);rw [<- hM] at HME ⊢;have hmb:=V9 (V && M);have IG:=hide (fun wk=>QB (ZH (V && M)) q.2 hmb.1 hmb.2 zU.1 zU.2 wk);rw [aO] at IG;have hand:=j4 V M;obtain ⟨R,hR⟩:∃ R:Int × Int,R=(if (V && M)=true then (1,q.2) else (0,0)):=⟨_,rfl⟩;rw [<- hR] at IG ⊢;obtain ⟨mv,hmv⟩:=eE (ZH (V && M));rw [<- hmv] at IG hand;obtain ⟨⟨q1,q2⟩,q3⟩:=q;obtain ⟨r1,r2⟩:=R;dsimp only at *;have Md:¬ P rb:=fun h=>by have:=hP _ h;omega
 have NV:=hide hk0;have Jm:=hide hbs;have II:=hide Sm;have Sg:=hide Md;have eG:=hide R0;have HB0:=hide hb0;clear hR hmv hM hmb hP hg0 hb h1 h2 h3 h4 hs hgs MF hw ht hl hb0 R0 Sm ht0 hk0 hbs Md hq pU zU hPb e0 e1 e2 hS;go_enter func275,ntmps275;have t1:=hS0.1;rw [hw0] at t1;go_wp2_with fail;rw [<- hw0,<- hrb];have Gc:=hide hrb;clear hw0 hrb;refine RY.out.mono ?_;rintro e w1 ⟨rfl,hk1,_,ht1⟩;have hS1:=hS0.keep hk1 ⟨.inl Jm.out.1,.inl Jm.out.2.1,.inl Jm.out.2.2.1,.inl Jm.out.2.2.2.1,.inl Jm.out.2.2.2.2⟩;have zgg:nN b1 b2 b3 b4 b (off+i*3) (ZG t) V GA (some ⟨b,off,none⟩) gs.length gc qs.length qc q1 q2 q3 w1.drew:=hS1;have HR1:=hide (eG.out.kept hk1 (.inr rfl));have Po:=hide hk1;have mP:=hide (NV.out.trans (hk1.mono fun j hj=>.inl hj));have HT1:=hide ht1;have HM1:=hide (HME.out w1.drew (mP.out.trans (Z9.drew _ _)) (fun j hj=>Nat.lt_of_lt_of_le (II.out j hj) hk1.size) ht1.drew)
 have zvv:Hid (∀ wa wb,nN b1 b2 b3 b4 b (off+i*3) (ZG t) V GA (some ⟨b,off,none⟩) gs.length gc qs.length qc q1 q2 q3 wa->Z9 (Also P rb) wa wb->nN b1 b2 b3 b4 b (off+i*3) (ZG t) V GA (some ⟨b,off,none⟩) gs.length gc qs.length qc q1 q2 q3 wb) :=
  hide fun wa wb h hk=>h.keep hk ⟨.inl Jm.out.1,.inl Jm.out.2.1,.inl Jm.out.2.2.1,.inl Jm.out.2.2.2.1,.inl Jm.out.2.2.2.2⟩
 have zfk:Hid (∀ wk,nN b1 b2 b3 b4 b (off+i*3) (ZG t) V GA (some ⟨b,off,none⟩) gs.length gc qs.length qc q1 q2 q3 wk->nN b1 b2 b3 b4 b (off+i*3) (ZG t) V GA (some ⟨b,off,none⟩) gs.length gc qs.length qc q1 q2 q3 ((wk.setCell ⟨rb,0,none⟩ (.int .u64 r1)).setCell ⟨rb,1,none⟩ (.int .u64 r2))) :=
  hide fun wk h=>h.keep ((Z9.setCell Sg.out _ _ _).trans (Z9.setCell Sg.out _ _ _)) Jm.out
 clear hk1 ht1 t1 hS0 RY HME;go_wp2_with fail
 go_region_held3 (fun w'=>w'.cell? ⟨b1,0,none⟩=some (.pointer (ZG t))/\w'.cell? ⟨b2,0,none⟩=some (.int .u64 (ZH V))/\w'.cell? ⟨b3,0,none⟩=some (.slice GA gs.length gc)/\w'.cell? ⟨b4,0,none⟩=some (.slice (some ⟨b,off,none⟩) qs.length qc) /\
  w'.cell? ⟨b,off+i*3,none⟩=some (.int .i64 q1)/\w'.cell? ⟨b,off+i*3+1,none⟩=some (.int .i64 q2)/\w'.cell? ⟨b,off+i*3+2,none⟩=some (.int .u64 q3))
  (first|with_reducible exact zgg|with_reducible exact hS1|with_reducible assumption|with_reducible exact zfk.out _ (by assumption)|exact zvv.out _ _ zgg (by assumption)|exact zvv.out _ _ (by assumption) (by assumption)|exact nN.zjd (by assumption) (by assumption))
  (first
    | (go_at_call 197;((with_reducible refine HM1.out.mono ?_);rintro e w2 ⟨rfl,hk2,ht2⟩))
    | (go_at_call 276;((with_reducible refine (IG.out _).mono ?_);rintro e w3 ⟨rfl,hb3⟩;have R3:=(HR1.out.drew.kept hk2 (.inr rfl)).step hb3;have z0:=R3.q0 rfl;have z1:=R3.q1 rfl;have f0:=R3.frozen 0;have f1:=R3.frozen 1)))
 all_goals
  have e0:=((R3.set 0 (.int .u64 r1)).set 1 (.int .u64 r2)).q0 rfl;have e1:=((R3.set 0 (.int .u64 r1)).set 1 (.int .u64 r2)).q1 rfl;have hp2:∀ j,P j->j<w2.heap.size:=fun j hj=>Nat.lt_of_lt_of_le (II.out j (.inl hj)) (Nat.le_trans Po.out.size hk2.size)
  have hkf:Z9 P w ((w3.setCell ⟨rb,0,none⟩ (.int .u64 r1)).setCell ⟨rb,1,none⟩ (.int .u64 r2)) :=
   (mP.out.trans ((Z9.drew _ _).trans (hk2.mono fun j hj=>.inl hj))).trans ((Z9.of_below hb3 hp2).trans ((Z9.setCell Sg.out _ _ _).trans (Z9.setCell Sg.out _ _ _)))
  have htf:Tp ((w3.setCell ⟨rb,0,none⟩ (.int .u64 r1)).setCell ⟨rb,1,none⟩ (.int .u64 r2)) P t (es++((8,(i:Int),0)::YI gs)):=by
   have h:=(((ht2.step hb3).set (.inr rfl) 0 (.int .u64 r1)).set (.inr rfl) 1 (.int .u64 r2)).mono (R:=P) fun j hj=>.inl hj;rw [List.append_assoc] at h;exact h
  have HF:=hide (And.intro hkf htf);clear hkf htf hk2 ht2 hb3 R3 z0 z1 f0 f1;go_wp2;refine bodyPost_ret (v:=.agg #[.int .u64 r1,.int .u64 r2]) (by simp [results,Tryz.results275,go_sem,e0,e1]) rfl ⟨rfl,HF.out⟩
theorem pV{gs:List Gr}{qs:List ((Int × Int) × Int)}{k:Nat}{q:(Int × Int) × Int}(h:qs[k]?=some q):(Y2 gs qs)[k]?=some (hrec gs q):=by
 unfold Y2;rw [List.getElem?_map,h];rfl
def Sd(gs:List Gr)(qs:List ((Int × Int) × Int))(k:Nat):List (Int × Int):=(Y2 gs qs).take k++List.replicate (qs.length - k) (0,0)
theorem rD(gs:List Gr)(qs:List ((Int × Int) × Int)):madeCells #[.int .u64 0,.int .u64 0] (qs.length*2)=QS (Sd gs qs 0):=by
 refine FE (by rw [size_madeCells];simp [Sd]) fun k r hk=>?_
 have hz:∀ i,i<qs.length*2->(madeCells #[.int .u64 0,.int .u64 0] (qs.length*2))[i]?=some (.int .u64 0):=fun i hi=>by
  have:i % 2=0\/i % 2=1:=by omega
  unfold madeCells;rw [Array.getElem?_map,Array.getElem?_range];rw [if_pos hi];rcases this with h|h <;> simp [h]
 unfold Sd at hk;rw [List.take_zero,List.nil_append,Nat.sub_zero] at hk;obtain ⟨h1,h2⟩:=List.getElem?_eq_some_iff.1 hk;rw [List.length_replicate] at h1;rw [List.getElem_replicate] at h2;subst h2;exact ⟨hz _ (by omega),hz _ (by omega)⟩
theorem Ik{gs:List Gr}{qs:List ((Int × Int) × Int)}{k:Nat}{r:Int × Int}(hk:k<qs.length)(h:(Y2 gs qs)[k]?=some r):
 ((QS (Sd gs qs k)).setIfInBounds (k*2) (.int .u64 r.1)).setIfInBounds (k*2+1) (.int .u64 r.2)=QS (Sd gs qs (k+1)):=by
 have hl:(Y2 gs qs).length=qs.length:=by unfold Y2;rw [List.length_map]
 have l1:∀ j,j<=qs.length->(Sd gs qs j).length=qs.length:=fun j hj=>by unfold Sd;rw [List.length_append,List.length_take,List.length_replicate,hl];omega
 have hsz:(QS (Sd gs qs k)).size=qs.length*2:=by rw [OQ,l1 k (by omega)]
 refine FE (by simp only [Array.size_setIfInBounds];rw [hsz,l1 (k+1) (by omega)]) fun j x hj=>?_;simp only [Array.getElem?_setIfInBounds,Array.size_setIfInBounds,hsz];unfold Sd at hj
 by_cases e:j=k
 · subst e;rw [List.getElem?_append_left (by rw [List.length_take,hl];omega),List.getElem?_take_of_lt (by omega),h] at hj;cases hj;exact ⟨by rw [if_neg (by omega),if_pos rfl,if_pos (by omega)],by rw [if_pos rfl,if_pos (by omega)]⟩
 · have hj2:(Sd gs qs k)[j]?=some x:=by
    unfold Sd
    by_cases hjk:j<k
    · rw [List.getElem?_append_left (by rw [List.length_take,hl];omega),List.getElem?_take_of_lt (by omega)] at hj;rw [List.getElem?_append_left (by rw [List.length_take,hl];omega),List.getElem?_take_of_lt (by omega)];exact hj
    · have t1:((Y2 gs qs).take k).length=k:=(by rw [List.length_take,hl];omega);have t2:((Y2 gs qs).take (k+1)).length=k+1:=(by rw [List.length_take,hl];omega);rw [List.getElem?_append_right (by omega),t2] at hj;rw [List.getElem?_append_right (by omega),t1];obtain ⟨h1,h2⟩:=List.getElem?_eq_some_iff.1 hj;rw [List.length_replicate] at h1;rw [List.getElem_replicate] at h2;rw [List.getElem?_replicate,if_pos (by omega),h2]
   have h2:=VY hj2;exact ⟨by rw [if_neg (by omega),if_neg (by omega)];exact h2.1,by rw [if_neg (by omega),if_neg (by omega)];exact h2.2⟩
theorem bQ(P:Nat->Prop)(t:Option (Nat × Nat))(es:List Ev)(gs:List Gr)(GA:Option Addr)(gc:Nat)(w:World)(hP:∀ k,P k->k<w.heap.size)(hg0:P 8)(hs:Wp w P GA (rgCells (gs.map (·.1))))(hgs:vC w P gs)(hw:MW w)(ht:Tp w P t es)(hl:t=none\/es.length<=600000):
 Calls prog 195 #[.pointer (ZG t),.slice GA gs.length gc] w fun e w'=>e=.returned (.int .u64 (ZH (YN gs)))/\Z9 P w w'/\Tp w' P t (es++Zp gs):=by
 rcases hl with rfl|hl
 · refine (UU P none [] gs GA gc w hP hg0 hs hgs hw trivial (by simp)).mono ?_;rintro e w' ⟨h1,h2,_⟩;exact ⟨h1,h2,trivial⟩
 · exact UU P t es gs GA gc w hP hg0 hs hgs hw ht hl
theorem AA (P:Nat->Prop) (t:Option (Nat × Nat)) (es:List Ev) (gs:List Gr) (GA:Option Addr) (gc:Nat) (qs:List ((Int × Int) × Int)) (QA:Option Addr) (qc:Nat) (pU:∀ q∈qs,PJ q.1) (zU:∀ q∈qs,Ua q.2) (hqn:qs.length<=4096) (w:World) (hP:∀ k,P k->k<w.heap.size) (hg0:P 8)
 (hs:Wp w P GA (rgCells (gs.map (·.1)))) (hgs:vC w P gs) (MF:Wp w P QA (XC qs)) (hw:MW w) (ht:Tp w P t es) (hl:t=none\/es.length+4161*qs.length<=600000) :
 Calls prog 206 #[.pointer (ZG t),.slice GA gs.length gc,.slice QA qs.length qc] w fun e w' =>
  ∃ b,e=.returned (.tuple #[.int .u64 (ZH (YN gs)),.slice (some ⟨b,0,none⟩) qs.length qs.length])/\Z9 P w w'/\Tp w' (Also P b) t (es++Zp gs++XZ gs qs.length)/\b<w'.heap.size/\Z7 w' b 148 (QS (Y2 gs qs)):=by
 obtain ⟨tb,htb⟩:=eE w.heap.size;obtain ⟨w0,hw0⟩:=eE (((w.alloc (.cells #[.pointer (ZG t)] 193)).alloc (.cells #[.slice GA gs.length gc] 32)).alloc (.cells #[.slice QA qs.length qc] 33));have hb0:Below w.heap.size w w0:=by rw [hw0];exact Z5 (Z5 (bA) _) _
 have T0:Z7 w0 tb 193 #[.pointer (ZG t)]:=by rw [hw0,htb];exact ((Z7.new _ _ _).alloc _).alloc _
 have G0:Z7 w0 (tb+1) 32 #[.slice GA gs.length gc]:=by rw [hw0,htb];exact (Z7.new2 _ _ _ _).alloc _
 have Q0:Z7 w0 (tb+1+1) 33 #[.slice QA qs.length qc]:=by
  rw [hw0,htb];have h:=Z7.new ((w.alloc (.cells #[.pointer (ZG t)] 193)).alloc (.cells #[.slice GA gs.length gc] 32)) 33 #[.slice QA qs.length qc];simpa using h
 have hz0:w0.heap.size=tb+3:=by rw [hw0,htb];simp
 have hm:=Yr hP hb0;have hk0:Z9 P w w0:=Z9.of_below hb0 hP;have HV:=hide (bQ (More P w w0) t es gs GA gc w0 hm (.inl hg0) ((hs.kept hk0).mono fun k h=>.inl h) (fun g hg=>⟨(hgs g hg).1,((hgs g hg).2.1.kept hk0).mono fun k h=>.inl h,(hgs g hg).2.2⟩) (hw.step hb0) (ht.more hb0) (by rcases hl with h|h;exact .inl h;exact .inr (by omega)));have bZ:Hid (More P w w0 tb):=.inr ⟨by omega,T0.lt⟩;have HMG:Hid (More P w w0 (tb+1)):=.inr ⟨by omega,G0.lt⟩;have HMQ:Hid (More P w w0 (tb+1+1)):=.inr ⟨by omega,Q0.lt⟩;have HP:=hide hP;have HG:=hide hg0;have HS:=hide hs;have NU:=hide hgs;have HQS:=hide MF;have HW:=hide hw;have NV:=hide hk0;have HM:=hide hm;have HQP:=hide pU;have HQU:=hide zU;have HZ0:=hide hz0;have t0:=T0.q0 rfl;have g0:=G0.q0 rfl;rw [hw0] at t0 g0;clear hP hg0 hs hgs MF hw ht hb0 hm hk0 pU zU hz0;go_enter func206,ntmps206;go_wp2_with fail;rw [<- hw0,<- htb];have HTB:=hide htb;clear htb;refine HV.out.mono ?_;rintro e w1 ⟨rfl,hk1,ht1⟩;obtain ⟨vb,hvb⟩:=eE w1.heap.size;obtain ⟨V,hV⟩:=eE (YN gs);rw [<- hV];have hmk:=fun w=>G7 qs.length (by omega) w;obtain ⟨W2,hW2⟩:=eE ((w1.alloc (.cells #[.int .u64 (ZH V)] 44)).alloc (.cells (madeCells #[.int .u64 0,.int .u64 0] (qs.length*2)) 148));have hb2:=bF hW2;have V2:Z7 W2 vb 44 #[.int .u64 (ZH V)]:=by rw [hW2,hvb];exact (Z7.new _ _ _).alloc _
 have hz2:W2.heap.size=vb+2:=by rw [hW2,hvb];simp
 have O2:Z7 W2 (vb+1) 148 (QS (Sd gs qs 0)):=by
  have h:Z7 W2 (vb+1) 148 (madeCells #[.int .u64 0,.int .u64 0] (qs.length*2)):=by rw [hW2,hvb];exact Z7.new2 _ _ _ _
  rw [rD] at h;exact h
 have T2:=(T0.kept hk1 bZ.out).step hb2;have G2:=(G0.kept hk1 HMG.out).step hb2;have Q2:=(Q0.kept hk1 HMQ.out).step hb2;have hvt:tb+3<=vb:=by have:=hk1.size;have:=HZ0.out;omega
 have hM2:∀ j,More P w w0 j->j<vb:=fun j hj=>by have:=HM.out j hj;have:=hk1.size;omega
 have hQ2:∀ j,Also (Also (More P w w0) vb) (vb+1) j->j<W2.heap.size:=fun j hj=>by
  rcases hj with (hj|hj)|hj
  · have:=hM2 j hj;omega
  · omega
  · omega
 have ht2:Tp W2 (Also (Also (More P w w0) vb) (vb+1)) t (es++Zp gs):=(ht1.add (R:=Also (Also (More P w w0) vb) (vb+1)) fun j hj=>by
  rcases hj with (hj|hj)|hj
  · exact .inl hj
  · exact .inr (by omega)
  · exact .inr (by omega)).step hb2
 have zex:=hide (NV.out.trans ((hk1.mono fun j h=>.inl h).trans (Z9.of_below hb2 fun j hj=>Nat.lt_of_lt_of_le (hM2 j (.inl hj)) (by omega))));have HPQ:Hid (∀ j,P j->Also (Also (More P w w0) vb) (vb+1) j):=fun j hj=>.inl (.inl (.inl hj))
 have RY:Hid (¬ Also (More P w w0) vb (vb+1)):=fun h=>by
  rcases h with h|h
  · have:=hM2 _ h;omega
  · omega
 have HIT:Hid (∀ (k:Nat) (wr:World),k<qs.length->Z9 (Also (More P w w0) vb) W2 wr->(∀ j,Also (Also (More P w w0) vb) (vb+1) j->j<wr.heap.size)->Z7 wr tb 193 #[.pointer (ZG t)]/\Z7 wr (tb+1) 32 #[.slice GA gs.length gc]/\Z7 wr (tb+1+1) 33 #[.slice QA qs.length qc]/\Z7 wr vb 44 #[.int .u64 (ZH V)] ->
  Tp wr (Also (Also (More P w w0) vb) (vb+1)) t (es++Zp gs++XZ gs k)->∃ r:Int × Int,(Y2 gs qs)[k]?=some r /\
  Calls prog 275 #[.int .i64 (k:Int),.pointer (some ⟨tb,0,none⟩),.pointer (some ⟨vb,0,none⟩),.pointer (some ⟨tb+1,0,none⟩),.pointer (some ⟨tb+1+1,0,none⟩)] wr fun e w' =>
   e=.returned (.agg #[.int .u64 r.1,.int .u64 r.2])/\Z9 (Also (Also (More P w w0) vb) (vb+1)) wr w'/\Tp w' (Also (Also (More P w w0) vb) (vb+1)) t (es++Zp gs++XZ gs (k+1))):=hide fun k wr hk hkr Ma ⟨B1,B3,B4,B2⟩ htr=>by
  obtain ⟨q,hq⟩:∃ q,qs[k]?=some q:=⟨_,List.getElem?_eq_getElem hk⟩;have hkw:Z9 P w wr:=zex.out.trans (hkr.mono fun j h=>.inl (.inl h));refine ⟨hrec gs q,pV hq,?_⟩
  have h:=jH (Also (Also (More P w w0) vb) (vb+1)) t (es++Zp gs++XZ gs k) gs GA gc qs QA qc V tb vb (tb+1) (tb+1+1) k q hq (HQP.out q (List.mem_of_getElem? hq)) (HQU.out q (List.mem_of_getElem? hq)) wr Ma (HPQ.out _ HG.out)
   ⟨.inl (.inl bZ.out),.inl (.inr rfl),.inl (.inl HMG.out),.inl (.inl HMQ.out)⟩ (B1.cell rfl) (B2.cell rfl) (B3.cell rfl) (B4.cell rfl) ((HS.out.kept hkw).mono HPQ.out) (fun g hg=>⟨(NU.out g hg).1,((NU.out g hg).2.1.kept hkw).mono HPQ.out,(NU.out g hg).2.2⟩) ((HQS.out.kept hkw).mono HPQ.out) (HW.out.kept hkw HG.out) htr (by
     rcases hl with h|h
     · exact .inl h
     · have h1:=Uj gs k;have h2:=WZ gs;have h3:4161*k<=4161*qs.length:=Nat.mul_le_mul_left _ (by omega)
       exact .inr (by rw [List.length_append,List.length_append];omega))
  refine h.mono ?_;rintro e w' ⟨he,hk',ht'⟩;refine ⟨?_,hk',?_⟩
  · rw [he,hV];rfl
  · rw [MI,<- List.append_assoc];exact ht'
 have q0:=((Q0.kept hk1 HMQ.out).alloc (.cells #[.int .u64 (ZH V)] 44)).q0 rfl;have q1:=Q2.q0 rfl;rw [hW2] at q1;have HT2:=hide T2;have HG2:=hide G2;have HQ2:=hide Q2;have HV2:=hide V2;have HO2:=hide O2;have zbp:=hide ht2;have zbl:=hide hQ2;have HVT:=hide hvt;have HZ2:=hide hz2;have HVV:=hide hV;have zbr:=hide hW2;have hmf:∀ (fn:Fn) (first cap:Array Value) (w:World),(Instr.makeFunc fn first cap).run prog w=.ok (.func fn first cap) w:=fun _ _ _ _=>rfl;clear T2 G2 Q2 V2 O2 ht2 hQ2 hvt hz2 hV T0 G0 Q0 hk1 ht1 hM2 hb2 t0 g0 hw0 HV;go_wp2_with fail;rw [<- hvb,<- zbr.out];clear hvb q0 q1 hmk
 go_loopw [21] (fun i wr=>∃ k:Nat,k<=qs.length/\i=.int .i64 k/\(Z7 wr tb 193 #[.pointer (ZG t)]/\Z7 wr (tb+1) 32 #[.slice GA gs.length gc]/\Z7 wr (tb+1+1) 33 #[.slice QA qs.length qc]/\Z7 wr vb 44 #[.int .u64 (ZH V)])/\Z7 wr (vb+1) 148 (QS (Sd gs qs k))/\Z9 (Also (More P w w0) vb) W2 wr/\Tp wr (Also (Also (More P w w0) vb) (vb+1)) t (es++Zp gs++XZ gs k))
  (fun i _=>qs.length - (intOf i).toNat)
 case atStart=>exact ⟨0,Nat.zero_le _,rfl,⟨HT2.out,HG2.out,HQ2.out,HV2.out⟩,HO2.out,Z9.refl _ _,by simpa [XZ] using zbp.out⟩
 case round =>
  obtain ⟨k,hk,rfl,iB,hO,hkr,htr⟩:=hrel;have Ma:∀ j,Also (Also (More P w w0) vb) (vb+1) j->j<wr.heap.size:=fun j hj=>Nat.lt_of_lt_of_le (zbl.out j hj) hkr.size
  by_cases hlt:k<qs.length
  · obtain ⟨r,hr,hC⟩:=HIT.out k wr hlt hkr Ma iB htr;have Nv:(k:Int)<(qs.length:Int):=(by omega);have HC:=hide hC;have HST:=hide (Ik hlt hr);have hsz:(QS (Sd gs qs k)).size=qs.length*2:=by
     have:=congrArg Array.size (Ik hlt hr);simp only [Array.size_setIfInBounds] at this;rw [this,OQ];unfold Sd;rw [List.length_append,List.length_take,List.length_replicate];have hl:(Y2 gs qs).length=qs.length:=(by unfold Y2;rw [List.length_map]);omega
    have Qx:=hide hsz;have Jm:=hide iB;have HO:=hide hO;have dU:=hide hkr;clear hC hr hsz iB hO hkr htr Ma;go_wp2_with fail;refine HC.out.mono ?_;rintro e w3 ⟨rfl,hk3,ht3⟩;have B3:=HO.out.kept hk3 (.inr rfl);have c0:=B3.cell (i:=k*2) (Array.getElem?_eq_getElem (by rw [Qx.out];omega));have c1:=B3.cell (i:=k*2+1) (Array.getElem?_eq_getElem (by rw [Qx.out];omega));have f0:=B3.frozen (k*2);have f1:=B3.frozen (k*2+1);have HB3:=hide B3;have Pp:=hide hk3;have HT3:=hide ht3
    have kb:∀ {g t cs},Also (More P w w0) vb g->Z7 wr g t cs->Z7 ((w3.setCell ⟨vb+1,k*2,none⟩ (.int .u64 r.1)).setCell ⟨vb+1,k*2+1,none⟩ (.int .u64 r.2)) g t cs:=fun {g t cs} hg hB=>by
     have hne:g≠vb+1:=fun e=>RY.out (e ▸ hg);exact ((hB.kept Pp.out (.inl hg)).far (p:=⟨vb+1,k*2,none⟩) hne _).far (p:=⟨vb+1,k*2+1,none⟩) hne _
    have zgr:Z7 ((w3.setCell ⟨vb+1,k*2,none⟩ (.int .u64 r.1)).setCell ⟨vb+1,k*2+1,none⟩ (.int .u64 r.2)) tb 193 #[.pointer (ZG t)]/\Z7 ((w3.setCell ⟨vb+1,k*2,none⟩ (.int .u64 r.1)).setCell ⟨vb+1,k*2+1,none⟩ (.int .u64 r.2)) (tb+1) 32 #[.slice GA gs.length gc]/\Z7 ((w3.setCell ⟨vb+1,k*2,none⟩ (.int .u64 r.1)).setCell ⟨vb+1,k*2+1,none⟩ (.int .u64 r.2)) (tb+1+1) 33 #[.slice QA qs.length qc]/\Z7 ((w3.setCell ⟨vb+1,k*2,none⟩ (.int .u64 r.1)).setCell ⟨vb+1,k*2+1,none⟩ (.int .u64 r.2)) vb 44 #[.int .u64 (ZH V)] :=
     ⟨kb (.inl bZ.out) Jm.out.1,kb (.inl HMG.out) Jm.out.2.1,kb (.inl HMQ.out) Jm.out.2.2.1,kb (.inr rfl) Jm.out.2.2.2⟩
    have hO2:Z7 ((w3.setCell ⟨vb+1,k*2,none⟩ (.int .u64 r.1)).setCell ⟨vb+1,k*2+1,none⟩ (.int .u64 r.2)) (vb+1) 148 (QS (Sd gs qs (k+1))):=by
     have h:=(HB3.out.set (k*2) (.int .u64 r.1)).set (k*2+1) (.int .u64 r.2);rw [HST.out] at h;exact h
    have hk2:Z9 (Also (More P w w0) vb) W2 ((w3.setCell ⟨vb+1,k*2,none⟩ (.int .u64 r.1)).setCell ⟨vb+1,k*2+1,none⟩ (.int .u64 r.2)):=(dU.out.trans (Pp.out.mono fun j hj=>.inl hj)).trans ((Z9.setCell RY.out _ _ _).trans (Z9.setCell RY.out _ _ _));have ht2:Tp ((w3.setCell ⟨vb+1,k*2,none⟩ (.int .u64 r.1)).setCell ⟨vb+1,k*2+1,none⟩ (.int .u64 r.2)) (Also (Also (More P w w0) vb) (vb+1)) t (es++Zp gs++XZ gs (k+1)):=(HT3.out.set (.inr rfl) _ _).set (.inr rfl) _ _;have Ue:=hide (And.intro zgr (And.intro hO2 (And.intro hk2 ht2)));clear kb zgr hO2 hk2 ht2 B3 hk3 ht3;go_wp2;go_roundw
    case rel=>exact ⟨k+1,by omega,by go_num,Ue.out⟩
    case measure=>simp [intOf];omega
  · obtain rfl:k=qs.length:=(by omega);have v0:=iB.2.2.2.q0 rfl;have hrow:Sd gs qs qs.length=Y2 gs qs:=by
     have hl:(Y2 gs qs).length=qs.length:=(by unfold Y2;rw [List.length_map]);unfold Sd;rw [Nat.sub_self,List.replicate_zero,List.append_nil,List.take_of_length_le (by omega)]
    rw [hrow] at hO
    have HF:=hide (show Z9 P w wr/\Tp wr (Also P (vb+1)) t (es++Zp gs++XZ gs qs.length)/\vb+1<wr.heap.size/\Z7 wr (vb+1) 148 (QS (Y2 gs qs)) from
     ⟨zex.out.trans (hkr.mono fun j h=>.inl (.inl h)),htr.mono fun j hj=>by
       rcases hj with hj|hj
       · exact HPQ.out j hj
       · exact .inr hj,hO.lt,hO⟩)
    clear iB hO hkr htr Ma hrow;go_wp2;go_ret2;exact ⟨vb+1,by rw [<- HVV.out];rfl,HF.out⟩
theorem vY(gs:List Gr)(GA:Option Addr)(gc:Nat)(n:Nat)(w:World)(hs:Sl w w.heap.size GA (rgCells (gs.map (·.1)))):
 Calls prog 205 #[.slice GA gs.length gc,.int .i64 (n:Int)] w fun e w'=>e=.returned (.int .i64 (XY gs n))/\Below w.heap.size w w':=by
 have Jo:=PG (gs.map (·.1)) GA gc w hs;rw [List.length_map] at Jo;have HC:=hide Jo;obtain ⟨F,hF⟩:=eE (YD (gs.map (·.1)));have HB:Hid (XY gs n=if F≠0 then F else if n<1\/4096<n then 6 else 0):=by rw [hF];exact rfl
 rw [<- hF] at HC;clear Jo hF hs
 by_cases h0:F=0
 · by_cases h1:(n:Int)<1
   · have hr:XY gs n=6:=(by rw [HB.out,if_neg (by simpa using h0),if_pos (by omega)]);rw [hr];subst h0;clear hr HB;go_enter func205,ntmps205;go_wp2_with fail;refine HC.out.mono ?_;rintro e w' ⟨rfl,hb⟩;go_wp2;go_ret;exact ⟨rfl,hb⟩
   · by_cases h2:(4096:Int)<(n:Int)
     · have hr:XY gs n=6:=(by rw [HB.out,if_neg (by simpa using h0),if_pos (by omega)]);rw [hr];subst h0;clear hr HB;go_enter func205,ntmps205;go_wp2_with fail;refine HC.out.mono ?_;rintro e w' ⟨rfl,hb⟩;go_wp2;go_ret;exact ⟨rfl,hb⟩
     · have hr:XY gs n=0:=(by rw [HB.out,if_neg (by simpa using h0),if_neg (by omega)]);rw [hr];subst h0;clear hr HB;go_enter func205,ntmps205;go_wp2_with fail;refine HC.out.mono ?_;rintro e w' ⟨rfl,hb⟩;go_wp2;go_ret;exact ⟨rfl,hb⟩
 · have hr:XY gs n=F:=(by rw [HB.out,if_pos h0]);rw [hr];clear hr HB;go_enter func205,ntmps205;go_wp2_with fail;refine HC.out.mono ?_;rintro e w' ⟨rfl,hb⟩;go_wp2;go_ret;exact ⟨rfl,hb⟩
theorem U8 {fn:Func} {p u:Tmp} {tmps:Array Value} {w:World} {g:Nat} {v0 v1 v2:Value} (h:fn.results=#[.cell p 175,.tmp u])
 (hp:tmps.getD p undef=.pointer (some ⟨g,0,none⟩)) (hb:Z7 w g 175 #[v0,v1,v2]) :
 (results fn tmps).run prog w=.ok (.tuple #[.agg #[v0,v1,v2],tmps.getD u undef]) w:=by
 have c0:=hb.q0 rfl;have c1:=hb.q1 rfl;have c2:=hb.q2 rfl;have hp':tmps[p]?.getD undef=.pointer (some ⟨g,0,none⟩):=by rw [<- hp];simp
 simp [results,h,hp',go_sem,c0,c1,c2]
def vB(P:Nat->Prop)(t:Option (Nat × Nat))(es':List Ev)(r:bU × Int)(w:World)(e:Ending)(w':World):Prop :=
 ∃ A c,e=.returned (.tuple #[.agg #[.int .i64 r.1.val,.int .i64 r.1.cnt,.slice A r.1.recs.length c],.int .i64 r.2])/\Z9 P w w'/\Tp w' P t es'/\Sl w' w'.heap.size A (Zb r.1.recs)
def zao(P:Nat->Prop)(t:Option (Nat × Nat))(es':List Ev)(r:bU × Int)(w:World)(e:Ending)(w':World):Prop :=
 ∃ A c,r.1.recs.length<=c/\e=.returned (.tuple #[.agg #[.int .i64 r.1.val,.int .i64 r.1.cnt,.slice A r.1.recs.length c],.int .i64 r.2])/\Z9 P w w'/\Tp w' P t es'/\Sl w' w'.heap.size A (Zb r.1.recs)
theorem Sl.OW{w:World}{g:Nat}{xs:List Value}{b o:Nat}(h:Sl w w.heap.size (some ⟨g,0,none⟩) xs)(hne:g≠b)(u:Value):Sl (w.setCell ⟨b,o,none⟩ u) (w.setCell ⟨b,o,none⟩ u).heap.size (some ⟨g,0,none⟩) xs :=
 (h.far (p:=⟨b,o,none⟩) (fun _ x hx=>by cases hx;exact hne) u).more (by simp)
theorem Dq (P:Nat->Prop) (t:Option (Nat × Nat)) (es:List Ev) (gs:List Gr) (GA:Option Addr) (gc:Nat) (qs:List ((Int × Int) × Int)) (QA:Option Addr) (qc:Nat) (pU:∀ q∈qs,PJ q.1) (zU:∀ q∈qs,Ua q.2) (w:World) (hP:∀ k,P k->k<w.heap.size) (hg0:P 8)
 (hs:Wp w P GA (rgCells (gs.map (·.1)))) (hgs:vC w P gs) (MF:Wp w P QA (XC qs)) (hw:MW w) (ht:Tp w P t es) (hl:t=none\/es.length+4161*qs.length+(YK (lg qs.length)).length<=600000) :
 Calls prog 147 #[.pointer (ZG t),.slice GA gs.length gc,.slice QA qs.length qc] w (zao P t (es++XQ gs qs.length) (YO gs qs) w):=by
 obtain ⟨rb,hrb⟩:=eE w.heap.size;obtain ⟨w0,hw0⟩:=eE (w.alloc (.cells #[.int .i64 0,.int .i64 0,.slice none 0 0] 175));have hb0:=bE hw0;have R0:Z7 w0 rb 175 #[.int .i64 0,.int .i64 0,.slice none 0 0]:=by rw [hw0,hrb];exact Z7.new _ _ _
 have Md:¬ P rb:=fun h=>by have:=hP _ h;omega
 have HC:=hide (vY gs GA gc qs.length w0 (((hs.sl hP).below hb0).more hb0.size))
 by_cases hc:XY gs qs.length=0
 · have hn:1<=qs.length/\qs.length<=4096:=by
    unfold XY at hc;split at hc
    · rename_i h;exact absurd hc h
    · split at hc
      · cases hc
      · omega
   have hv:YO gs qs=(⟨bif YN gs then 1 else 0,VB (Y2 gs qs),U2 Y9 (Y2 gs qs)⟩,0):=(by unfold YO;rw [if_neg (by simpa using hc)]);have he:XQ gs qs.length=Zp gs++XZ gs qs.length++Xb qs.length++Y3 (YK (lg qs.length)):=(by unfold XQ;rw [if_neg (by simpa using hc)]);rw [hv,he];rw [hc] at HC;have hrl:(Y2 gs qs).length=qs.length:=(by unfold Y2;rw [List.length_map]);have zom:=hide (QH gs zU);have HP:=hide hP;have HG:=hide hg0;have HS:=hide hs;have NU:=hide hgs;have HQS:=hide MF;have HW:=hide hw;have HT:=hide ht;have HQP:=hide pU;have HQU:=hide zU;have sU:=hide hrl;have HN:=hide hn;have HB0:=hide hb0;have eG:=hide R0;have Sg:=hide Md;have HL:=hide hl;clear hv he hc hrl hP hg0 hs hgs MF hw ht pU zU hn hb0 R0 Md hl;go_enter func147,ntmps147;go_wp2_with fail;rw [<- hw0,<- hrb];have Gc:=hide hrb;clear hw0 hrb;refine HC.out.mono ?_;rintro e w1 ⟨rfl,hb1⟩;have hB1:=Z8 HB0.out hb1;have zdc:=Gc.out;have R1:=eG.out.step hb1;have hK1:Z9 P w w1:=Z9.of_below hB1 HP.out
   have hP1:∀ j,Also P rb j->j<w1.heap.size:=fun j hj=>by
    rcases hj with hj|hj
    · exact Nat.lt_of_lt_of_le (HP.out j hj) hK1.size
    · subst hj;exact R1.lt
   have ht1:Tp w1 (Also P rb) t es:=(HT.out.add (R:=Also P rb) fun j hj=>by
    rcases hj with hj|hj
    · exact .inl hj
    · exact .inr (by omega)).step hB1
   have HCO:=hide (AA (Also P rb) t es gs GA gc qs QA qc HQP.out HQU.out HN.out.2 w1 hP1 (.inl HG.out) ((HS.out.kept hK1).mono fun j h=>.inl h) (fun g hg=>⟨(NU.out g hg).1,((NU.out g hg).2.1.kept hK1).mono fun j h=>.inl h,(NU.out g hg).2.2⟩) ((HQS.out.kept hK1).mono fun j h=>.inl h) (HW.out.kept hK1 HG.out) ht1 (by rcases HL.out with h|h;exact .inl h;exact .inr (by omega)));have Po:=hide hK1;have HR1:=hide R1;have Ei:=hide hP1;clear hb1 hB1 hK1 hP1 ht1 R1 HC zdc;go_wp2_with fail;refine HCO.out.mono ?_;rintro e w2 ⟨b,rfl,hk2,ht2,hbl,hB2⟩;have R2:=HR1.out.kept hk2 (.inr rfl)
   have hP2:∀ j,Also (Also P rb) b j->j<w2.heap.size:=fun j hj=>by
    rcases hj with hj|hj
    · exact Nat.lt_of_lt_of_le (Ei.out j hj) hk2.size
    · subst hj;exact hbl
   have hs2:Wp w2 (Also (Also P rb) b) (some ⟨b,0,none⟩) (Zb (Y2 gs qs)):=.inr ⟨b,0,rfl,.inr rfl,fun j u hu=>by
    rw [Nat.zero_add]
    exact hB2.cell (by unfold QS;rw [List.getElem?_toArray];exact hu)⟩
   have HCT:=hide (oG (Also (Also P rb) b) t (es++Zp gs++XZ gs qs.length) (Y2 gs qs) zom.out (by rw [sU.out];exact HN.out.2) (some ⟨b,0,none⟩) qs.length w2 hP2 hs2 ht2 (by
    rcases HL.out with h|h
    · exact .inl h
    · have h1:=Uj gs qs.length;have h2:=WZ gs
      exact .inr (by rw [List.length_append,List.length_append];omega)))
   rw [sU.out] at HCT;obtain ⟨V,hV⟩:=eE (YN gs);have nI:=hide (fun wk=>tJ V wk);have HVV:=hide hV;rw [<- hV];obtain ⟨vt,hvt⟩:∃ vt:Int,vt=(bif V then 1 else 0):=⟨_,rfl⟩;have hvb:0<=vt/\vt<=1:=(by rw [hvt];cases V <;> decide);rw [<- hvt] at nI;have HVT:=hide hvt;obtain ⟨C,hC⟩:=eE (VB (Y2 gs qs));have hcl:=Oj _ zom.out;rw [sU.out,<- hC] at hcl;rw [<- hC] at HCT;have HCC:=hide hC;have hn4:=HN.out.2;have hw1:IntKind.i64.wrap vt=vt:=(by rw [IntKind.wrap_i64];omega);have hw2:IntKind.i64.wrap (C:Int)=(C:Int):=(by rw [IntKind.wrap_i64];omega);have HR2:=hide R2;have Ef:=hide hk2;have HP2:=hide hP2;have HS2:=hide hs2;have HB2:=hide hB2;clear hV hvt hC hk2 ht2 hbl hB2 R2 hP2 hs2 HCO;go_wp2_with fail;refine (nI.out _).mono ?_;rintro e w2' ⟨rfl,rfl⟩;go_wp2_with fail;refine HCT.out.mono ?_;rintro e w3 ⟨rfl,hk3,ht3⟩;obtain ⟨ab,hab⟩:=eE w3.heap.size;obtain ⟨w4,hw4⟩:=eE (w3.alloc (.cells #[.int .i64 vt,.int .i64 (C:Int),.slice none 0 0] 175));have hb4:=bE hw4;have A4:Z7 w4 ab 175 #[.int .i64 vt,.int .i64 (C:Int),.slice none 0 0]:=(by rw [hw4,hab];exact Z7.new _ _ _);have hP3:∀ j,Also (Also P rb) b j->j<w3.heap.size:=fun j hj=>Nat.lt_of_lt_of_le (HP2.out j hj) hk3.size
   have zS:∀ j,Also (Also (Also P rb) b) ab j->j<w4.heap.size:=fun j hj=>by
    rcases hj with hj|hj
    · exact Nat.lt_of_lt_of_le (hP3 j hj) hb4.size
    · subst hj;exact A4.lt
   have zxs:Z9 (Also (Also P rb) b) w2 w4:=hk3.trans (Z9.of_below hb4 hP3);have R4:=HR2.out.kept zxs (.inl (.inr rfl))
   have I6:Tp w4 (Also (Also (Also P rb) b) ab) t (es++Zp gs++XZ gs qs.length++Xb qs.length):=(ht3.add (R:=Also (Also (Also P rb) b) ab) fun j hj=>by
    rcases hj with hj|hj
    · exact .inl hj
    · exact .inr (by omega)).step hb4
   have HSO:=hide (lZ (Also (Also (Also P rb) b) ab) t (es++Zp gs++XZ gs qs.length++Xb qs.length) (Y2 gs qs) zom.out (by rw [sU.out];exact HN.out.1) (by rw [sU.out];exact HN.out.2) (some ⟨b,0,none⟩) qs.length w4 zS ((HS2.out.kept zxs).mono fun j h=>.inl h) I6 (by
    rcases HL.out with h|h
    · exact .inl h
    · have h1:=Uj gs qs.length;have h2:=WZ gs;have h3:=Oh qs.length
      exact .inr (by rw [sU.out,List.length_append,List.length_append,List.length_append];omega)))
   rw [sU.out] at HSO;have zht:rb<ab:=(by have:=HR2.out.lt;have:=hk3.size;omega);have HA4:=hide A4;have HR4:=hide R4;have zbg:=hide zxs;have nM:=hide zS;have nD:=hide hab;have zfg:=hide zht;clear hk3 ht3 hb4 A4 hP3 zS zxs R4 I6 HCT zht;go_wp2_with fail;rw [<- hw4,<- hab];clear hw4 hab;refine HSO.out.mono ?_;rintro e w5 ⟨sb,rfl,hk5,Rf,zqm,zic⟩;have A5:=HA4.out.kept hk5 (.inr rfl);have R5:=HR4.out.kept hk5 (.inl (.inl (.inr rfl)));have z0:=A5.q0 rfl;have z1:=A5.q1 rfl;have z2:=A5.q2 rfl;have f2:=A5.frozen 2;have y0:=R5.q0 rfl;have y1:=R5.q1 rfl;have y2:=R5.q2 rfl;have g0:=R5.frozen 0;have g1:=R5.frozen 1;have g2:=R5.frozen 2;have hne1:¬ rb=ab:=(by have:=zfg.out;omega);have hne2:¬ ab=rb:=(by omega);have zhj:sb≠ab:=fun h=>zqm (.inr h);have zhk:sb≠rb:=fun h=>zqm (.inl (.inl (.inr h)));have HNS:=hide (And.intro zhj zhk);have HRR:=hide (((R5.far (p:=⟨ab,2,none⟩) (by dsimp only;omega) (.slice (some ⟨sb,0,none⟩) qs.length qs.length)).set 0 (.int .i64 vt)).set 1 (.int .i64 (C:Int)));have hKK:Z9 P w w5:=(Po.out.trans (Ef.out.mono fun j h=>.inl h)).trans ((zbg.out.mono fun j h=>.inl (.inl h)).trans (hk5.mono fun j h=>.inl (.inl (.inl h))));have HKK:=hide hKK;have HT5:=hide (Rf.mono (R:=P) fun j h=>.inl (.inl (.inl h)));have HSL:=hide zic
   have HTM:Hid (Tp w5 (Also (Also P rb) ab) t (es++Zp gs++XZ gs qs.length++Xb qs.length++Y3 (YK (lg qs.length)))):=Rf.mono fun j h=>by
    rcases h with (h|h)|h
    · exact .inl (.inl (.inl h))
    · exact .inl (.inl (.inr h))
    · exact .inr h
   clear hk5 Rf zqm zic A5 R5 hKK zhj zhk;go_wp2;refine bodyPost_ret (U8 rfl rfl (HRR.out.set 2 (.slice (some ⟨sb,0,none⟩) qs.length qs.length))) rfl ?_;have hil:(U2 Y9 (Y2 gs qs)).length=qs.length:=(by rw [OD,sU.out]);have hab':¬ P ab:=fun h=>by have:=HP.out _ h;have:=zfg.out;have:=Gc.out;omega
   refine ⟨some ⟨sb,0,none⟩,qs.length,Nat.le_of_eq hil,?_,?_,?_,?_⟩
   · rw [hil,<- HVV.out,<- HVT.out,<- HCC.out];rfl
   · exact HKK.out.trans ((Z9.setCell hab' _ _ _).trans ((Z9.setCell Sg.out _ _ _).trans ((Z9.setCell Sg.out _ _ _).trans (Z9.setCell Sg.out _ _ _))))
   · have h:=(((HTM.out.set (.inr rfl) 2 (.slice (some ⟨sb,0,none⟩) qs.length qs.length)).set (.inl (.inr rfl)) 0 (.int .i64 vt)).set (.inl (.inr rfl)) 1 (.int .i64 (C:Int))).set (.inl (.inr rfl)) 2 (.slice (some ⟨sb,0,none⟩) qs.length qs.length);have h2:=h.mono (R:=P) fun j h=>.inl (.inl h);simp only [List.append_assoc] at h2 ⊢;exact h2
   · exact (((HSL.out.OW HNS.out.1 _).OW HNS.out.2 _).OW HNS.out.2 _).OW HNS.out.2 _
 · have hv:YO gs qs=(Wv,XY gs qs.length):=(by unfold YO;rw [if_pos hc]);have he:XQ gs qs.length=[]:=(by unfold XQ;rw [if_pos hc]);rw [hv,he,List.append_nil];obtain ⟨F,hF⟩:=eE (XY gs qs.length);rw [<- hF] at hc HC ⊢;have HP:=hide hP;have HT:=hide ht;have HB0:=hide hb0;have eG:=hide R0;have Sg:=hide Md;clear hv he hF hP hg0 hs hgs MF hw ht pU zU hb0 R0 Md hl;go_enter func147,ntmps147;go_wp2_with fail;rw [<- hw0,<- hrb];have Gc:=hide hrb;clear hw0 hrb;refine HC.out.mono ?_;rintro e w1 ⟨rfl,hb1⟩;have R1:=eG.out.step hb1;have y0:=R1.q0 rfl;have y1:=R1.q1 rfl;have y2:=R1.q2 rfl;have g0:=R1.frozen 0;have g1:=R1.frozen 1;have g2:=R1.frozen 2;have HB1:=hide (Z8 HB0.out hb1);have HRR:=hide (((R1.set 0 (.int .i64 0)).set 1 (.int .i64 0)).set 2 (.slice none 0 0));clear R1 hb1 HC;go_wp2;refine bodyPost_ret (U8 rfl rfl HRR.out) rfl ?_;have hrl:w.heap.size<=rb:=(by rw [Gc.out];exact Nat.le_refl _);have hbf:=((HB1.out.setCell (p:=⟨rb,0,none⟩) hrl (.int .i64 0)).setCell (p:=⟨rb,1,none⟩) hrl (.int .i64 0)).setCell (p:=⟨rb,2,none⟩) hrl (.slice none 0 0);exact ⟨none,0,Nat.le_refl _,rfl,Z9.of_below hbf HP.out,HT.out.step hbf,Sl.nil _ _ _⟩
theorem bC (P:Nat->Prop) (t:Option (Nat × Nat)) (es:List Ev) (gs:List Gr) (GA:Option Addr) (gc:Nat) (qs:List ((Int × Int) × Int)) (QA:Option Addr) (qc:Nat) (pU:∀ q∈qs,PJ q.1) (zU:∀ q∈qs,Ua q.2) (w:World) (hP:∀ k,P k->k<w.heap.size) (hg0:P 8)
 (hs:Wp w P GA (rgCells (gs.map (·.1)))) (hgs:vC w P gs) (MF:Wp w P QA (XC qs)) (hw:MW w) (ht:Tp w P t es) (hl:t=none\/es.length+4161*qs.length+(YK (lg qs.length)).length<=600000) :
 Calls prog 147 #[.pointer (ZG t),.slice GA gs.length gc,.slice QA qs.length qc] w (vB P t (es++XQ gs qs.length) (YO gs qs) w):=by
 refine (Dq P t es gs GA gc qs QA qc pU zU w hP hg0 hs hgs MF hw ht hl).mono ?_;rintro e w' ⟨A,c,-,h⟩;exact ⟨A,c,h⟩
structure Aa(w:World)(P:Nat->Prop)(hrs:List Rg)(HA:Option Addr)(gs:List Gr)(GA:Option Addr)(ps:List Pt)(PA:Option Addr)(pc:Nat)(qs:List ((Int × Int) × Int))(QA:Option Addr):Prop where
 hh:Wp w P HA (rgCells hrs)
 hn:hrs.length<=maxLen
 hg:Wp w P GA (rgCells (gs.map (·.1)))
 gk:vC w P gs
 hp:Wp w P PA (Zl ps)
 pj:LW ps
 cap:ps.length<=pc
 hq:Wp w P QA (XC qs)
 qj:∀ q∈qs,PJ q.1
 qu:∀ q∈qs,Ua q.2
theorem Aa.kept{w w':World}{P R:Nat->Prop}{hrs:List Rg}{HA:Option Addr}{gs:List Gr}{GA:Option Addr}{ps:List Pt}{PA:Option Addr}{pc:Nat}{qs:List ((Int × Int) × Int)}{QA:Option Addr}(h:Aa w P hrs HA gs GA ps PA pc qs QA)(hk:Z9 P w w')(hR:∀ k,P k->R k):Aa w' R hrs HA gs GA ps PA pc qs QA :=
 ⟨(h.hh.kept hk).mono hR,h.hn,(h.hg.kept hk).mono hR,fun g hg=>⟨(h.gk g hg).1,((h.gk g hg).2.1.kept hk).mono hR,(h.gk g hg).2.2⟩,(h.hp.kept hk).mono hR,h.pj,h.cap,(h.hq.kept hk).mono hR,h.qj,h.qu⟩
theorem Aa.zxn{w:World}{P:Nat->Prop}{hrs:List Rg}{HA:Option Addr}{gs:List Gr}{GA:Option Addr}{ps:List Pt}{PA:Option Addr}{pc:Nat}{qs:List ((Int × Int) × Int)}{QA:Option Addr}(h:Aa w P hrs HA gs GA ps PA pc qs QA){B:Nat}(hP:∀ k,P k->k<B):dL w B gs :=
 fun g hg=>⟨(h.gk g hg).1,(h.gk g hg).2.1.sl hP⟩
def Uw(op vs:Int)(hrs:List Rg)(ZY:Int)(gs:List Gr)(ps:List Pt)(qs:List ((Int × Int) × Int)):bU × Int :=
 if (ZE op vs hrs ZY gs ps qs).2≠0 then (Wv,(ZE op vs hrs ZY gs ps qs).2) else if op=5 then YO gs qs else (⟨Xx op gs ps,0,[]⟩,0)
def VH(op vs:Int)(hrs:List Rg)(ZY:Int)(gs:List Gr)(ps:List Pt)(qs:List ((Int × Int) × Int)):List Ev :=
 if (ZE op vs hrs ZY gs ps qs).2≠0 then [] else if op=5 then XQ gs qs.length else Qw op gs ps
theorem fG (P:Nat->Prop) (t:Option (Nat × Nat)) (es:List Ev) (op vs ZY:Int) (hrs:List Rg) (HA:Option Addr) (hc:Nat) (gs:List Gr) (GA:Option Addr) (gc:Nat) (ps:List Pt) (PA:Option Addr) (pc:Nat) (qs:List ((Int × Int) × Int)) (QA:Option Addr) (qc:Nat) (w:World) (hP:∀ k,P k->k<w.heap.size) (hg0:P 8) (hw:MW w) (ht:Tp w P t es) (hl:t=none\/es.length<=600000)
 (h:Aa w P hrs HA gs GA ps PA pc qs QA) :
 Calls prog 231 #[.pointer (ZG t),.agg #[.int .i64 op,.int .i64 vs,.slice HA hrs.length hc,.int .i64 ZY,.slice GA gs.length gc,.slice PA ps.length pc,.slice QA qs.length qc]] w fun e w'=>e=.returned (.tuple #[.agg #[.int .i64 (Jy op vs hrs ZY gs ps qs).1,.int .i64 0,.slice none 0 0],.int .i64 (Jy op vs hrs ZY gs ps qs).2])/\Z9 P w w'/\Tp w' P t (es++Ml op vs hrs ZY gs ps qs):=by
 rcases hl with rfl|hl
 · refine (Jz P none [] op vs ZY hrs HA hc gs GA gc ps PA pc qs QA qc w hP hg0 hw trivial (by simp) h.pj h.hp h.cap h.hg h.gk h.hh h.hn (h.hq.sl hP)).mono ?_;rintro e w' ⟨h1,h2,_⟩;exact ⟨h1,h2,trivial⟩
 · exact Jz P t es op vs ZY hrs HA hc gs GA gc ps PA pc qs QA qc w hP hg0 hw ht hl h.pj h.hp h.cap h.hg h.gk h.hh h.hn (h.hq.sl hP)
theorem Sl.TS{w:World}{A:Option Addr}{xs:List Value}{b o:Nat}(h:Sl w w.heap.size A xs)(hne:xs≠[]->∀ x,A=some x->x.block≠b)(u:Value):Sl (w.setCell ⟨b,o,none⟩ u) (w.setCell ⟨b,o,none⟩ u).heap.size A xs :=
 (h.far (p:=⟨b,o,none⟩) hne u).more (by simp)
theorem Pw {P Q:Nat->Prop} {t:Option (Nat × Nat)} {es' es2:List Ev} {r:bU × Int} {w w2:World} {g c:Nat} {A:Option Addr} {val cnt er:Int} {recs:List (Int × Int)} {u0 u1 u2:Value} (hr:r=(⟨val,cnt,recs⟩,er)) (he:es'=es2) (hk:Z9 P w w2) (hnp:¬ P g) (ht:Tp w2 Q t es2) (hg:Q g) (hsub:∀ k,P k->Q k)
 (hs:Sl w2 w2.heap.size A (Zb recs)) (hne:recs≠[]->∀ x,A=some x->x.block≠g) :
 vB P t es' r w (.returned (.tuple #[.agg #[.int .i64 val,.int .i64 cnt,.slice A recs.length c],.int .i64 er])) (((w2.setCell ⟨g,0,none⟩ u0).setCell ⟨g,1,none⟩ u1).setCell ⟨g,2,none⟩ u2):=by
 subst hr;subst he;have hne':Zb recs≠[]->∀ x,A=some x->x.block≠g:=fun h=>hne fun e=>h (by rw [e];rfl);exact ⟨A,c,rfl,hk.trans ((Z9.setCell hnp _ _ _).trans ((Z9.setCell hnp _ _ _).trans (Z9.setCell hnp _ _ _))),(((ht.set hg _ _).set hg _ _).set hg _ _).mono hsub,((hs.TS hne' _).TS hne' _).TS hne' _⟩
theorem xC (P:Nat->Prop) (t:Option (Nat × Nat)) (es:List Ev) (op vs ZY:Int) (hrs:List Rg) (HA:Option Addr) (hc:Nat) (gs:List Gr) (GA:Option Addr) (gc:Nat) (ps:List Pt) (PA:Option Addr) (pc:Nat) (qs:List ((Int × Int) × Int)) (QA:Option Addr) (qc:Nat) (w:World) (hP:∀ k,P k->k<w.heap.size) (hg0:P 8) (hw:MW w) (ht:Tp w P t es) (hl:t=none\/es.length+4161*qs.length+(YK (lg qs.length)).length<=600000)
 (hr:Aa w P hrs HA gs GA ps PA pc qs QA) :
 Calls prog 165 #[.pointer (ZG t),.agg #[.int .i64 op,.int .i64 vs,.slice HA hrs.length hc,.int .i64 ZY,.slice GA gs.length gc,.slice PA ps.length pc,.slice QA qs.length qc]] w (vB P t (es++VH op vs hrs ZY gs ps qs) (Uw op vs hrs ZY gs ps qs) w):=by
 obtain ⟨rb,hrb⟩:=eE w.heap.size;obtain ⟨w0,hw0⟩:=eE ((w.alloc (.cells #[.int .i64 op,.int .i64 vs,.slice HA hrs.length hc,.int .i64 ZY,.slice GA gs.length gc,.slice PA ps.length pc,.slice QA qs.length qc] 182)).alloc (.cells #[.int .i64 0,.int .i64 0,.slice none 0 0] 175));have hb0:=bF hw0;have B0:Z7 w0 rb 182 #[.int .i64 op,.int .i64 vs,.slice HA hrs.length hc,.int .i64 ZY,.slice GA gs.length gc,.slice PA ps.length pc,.slice QA qs.length qc]:=by rw [hw0,hrb];exact (Z7.new _ _ _).alloc _
 have C0:Z7 w0 (rb+1) 175 #[.int .i64 0,.int .i64 0,.slice none 0 0]:=by rw [hw0,hrb];exact Z7.new2 _ _ _ _
 have hk0:Z9 P w w0:=Z9.of_below hb0 hP;have Sm:∀ k,P k->k<w0.heap.size:=fun k hk=>Nat.lt_of_lt_of_le (hP k hk) hb0.size;have hr0:=hr.kept hk0 (R:=P) fun k h=>h;have vE:=Py op vs ZY hrs HA hc gs GA gc ps PA pc qs QA qc w0 (hr0.hh.sl Sm) (hr0.hg.sl Sm) (hr0.zxn Sm) (hr0.hp.sl Sm) (hr0.hq.sl Sm) hr.hn;have zN:Hid (Uw op vs hrs ZY gs ps qs=if (ZE op vs hrs ZY gs ps qs).2≠0 then (Wv,(ZE op vs hrs ZY gs ps qs).2) else if op=5 then YO gs qs else (⟨Xx op gs ps,0,[]⟩,0)):=rfl;have Qa:Hid (VH op vs hrs ZY gs ps qs=if (ZE op vs hrs ZY gs ps qs).2≠0 then [] else if op=5 then XQ gs qs.length else Qw op gs ps):=rfl;have HAV:Hid (Jy op vs hrs ZY gs ps qs=if (ZE op vs hrs ZY gs ps qs).2≠0 then (0,(ZE op vs hrs ZY gs ps qs).2) else if op=5 then (0,2) else (Xx op gs ps,0)):=rfl;have HAE:Hid (Ml op vs hrs ZY gs ps qs=if (ZE op vs hrs ZY gs ps qs).2≠0 then [] else Qw op gs ps):=rfl;obtain ⟨⟨bs,err⟩,hE⟩:∃ E,E=ZE op vs hrs ZY gs ps qs:=⟨_,rfl⟩;rw [<- hE] at vE zN Qa HAV HAE;have Qs:=hide vE;have HP:=hide hP;have HG:=hide hg0;have HT:=hide ht;have HB0:=hide hb0;have HR:=hide hr;have HW:=hide hw;have HL:=hide hl;have Sg:Hid (¬ P (rb+1)):=fun h=>by have:=hP _ h;omega
 have HM:Hid (∀ k,Also (Also P rb) (rb+1) k->P k\/w.heap.size<=k):=fun k hk=>by
  rcases hk with (hk|hk)|hk
  · exact .inl hk
  · exact .inr (by omega)
  · exact .inr (by omega)
 clear hE vE hk0 hP hg0 hw ht hr hb0 Sm hr0 hl;dsimp only at *;go_enter func165,ntmps165;go_wp2_with fail;rw [<- hw0,<- hrb];have HW0:=hide hw0;have Gc:=hide hrb;clear hw0 hrb;refine Qs.out.mono ?_;rintro e w1 ⟨v,rfl,hv1,hb1⟩;have B1:=B0.step hb1;have C1:=C0.step hb1;have hB1:=Z8 HB0.out hb1;obtain ⟨VA,UG,rfl,_⟩:=ZP hv1;have hK1:Z9 P w w1:=Z9.of_below hB1 HP.out
 have hP1:∀ j,Also (Also P rb) (rb+1) j->j<w1.heap.size:=fun j hj=>by
  rcases hj with (hj|hj)|hj
  · exact Nat.lt_of_lt_of_le (HP.out j hj) hK1.size
  · subst hj;exact B1.lt
  · subst hj;exact C1.lt
 have ht1:Tp w1 (Also (Also P rb) (rb+1)) t es:=(HT.out.add HM.out).step hB1;have hsub:∀ k,P k->Also (Also P rb) (rb+1) k:=fun k h=>.inl (.inl h);have hr1:=HR.out.kept hK1 hsub;have hw1:=HW.out.kept hK1 HG.out;have c0:=B1.q0 rfl;have c1:=B1.q1 rfl;have c2:=B1.q2 rfl;have c3:=B1.q3 rfl;have c4:=B1.q4 rfl;have c5:=B1.q5 rfl;have c6:=B1.q6 rfl;have Po:=hide hK1;have nJ:=hide C1;have Ei:=hide hP1;have LV:=hide hsub;have HB1:=hide hB1
 by_cases he:err=0
 · subst he
   by_cases h5:op=5
   · subst h5;have HA2:Hid (Uw 5 vs hrs ZY gs ps qs=YO gs qs):=hide (zN.out.trans ((if_neg (by simp)).trans (if_pos rfl)));have HE2:Hid (VH 5 vs hrs ZY gs ps qs=XQ gs qs.length):=hide (Qa.out.trans ((if_neg (by simp)).trans (if_pos rfl)));have vK:=hide (bC (Also (Also P rb) (rb+1)) t es gs GA gc qs QA qc hr1.qj hr1.qu w1 hP1 (LV.out _ HG.out) hr1.hg hr1.gk hr1.hq hw1 ht1 HL.out);clear hK1 C1 hP1 ht1 hr1 hw1 hB1 hb1 hv1 zN Qa HAV HAE B1 hsub;go_wp2_with fail;refine vK.out.mono ?_;rintro e w2 ⟨A,c,rfl,hk2,ht2,hs2⟩;have C2:=nJ.out.kept hk2 (.inr rfl);have y0:=C2.q0 rfl;have y1:=C2.q1 rfl;have y2:=C2.q2 rfl;have g0:=C2.frozen 0;have g1:=C2.frozen 1;have g2:=C2.frozen 2;obtain ⟨⟨⟨val,cnt,recs⟩,er⟩,hR⟩:∃ R,R=YO gs qs:=⟨_,rfl⟩;have hsA:Sl w2 w2.heap.size A (Zb recs)/\(recs≠[]->∀ x,A=some x->x.block≠rb+1):=by
      refine ⟨by rw [<- hR] at hs2;exact hs2,fun hne x hx=>?_⟩;subst hx;rw [<- hR] at hs2;intro hxe;rcases hs2 with h|⟨b,off,hb,_,hcell⟩
      · obtain ⟨r,l,rfl⟩:=List.exists_cons_of_ne_nil hne;simp [Zb] at h
      · cases hb;dsimp only at hxe;subst hxe;obtain ⟨r,l,rfl⟩:=List.exists_cons_of_ne_nil hne;have h0:=hcell 0 (.int .u64 r.1) rfl;have hh:w2.heap[rb+1]?=some (.cells #[.int .i64 0,.int .i64 0,.slice none 0 0] 175 (0,0)):=C2;rw [cell_of_row w2 (rb+1) (off+0) _ _ _ hh] at h0;have:off+0<3:=by
         have:=(Array.getElem?_eq_some_iff.1 h0).1;simpa using this
        have h3:off+0=0\/off+0=1\/off+0=2:=(by omega);rcases h3 with h3|h3|h3 <;> rw [h3] at h0 <;> simp at h0
     rw [<- hR];dsimp only;have HSA:=hide hsA;have HRR:=hide (((C2.set 0 (.int .i64 val)).set 1 (.int .i64 cnt)).set 2 (.slice A recs.length c));have Ef:=hide (Po.out.trans (hk2.mono LV.out));have HT2:Hid (Tp w2 (Also (Also P rb) (rb+1)) t (es++XQ gs qs.length)):=ht2;have HRE:=hide hR;clear hk2 ht2 hs2 C2 hsA hR c0 c1 c2 c3 c4 c5 c6;go_wp2;refine bodyPost_ret (U8 rfl rfl HRR.out) rfl ?_;exact Pw (by rw [HA2.out,HRE.out]) (by rw [HE2.out]) Ef.out Sg.out HT2.out (.inr rfl) LV.out HSA.out.1 HSA.out.2
   · have h5n:¬ (op:Int)=5:=h5;have HA2:Hid (Uw op vs hrs ZY gs ps qs=(⟨Xx op gs ps,0,[]⟩,0)):=hide (zN.out.trans ((if_neg (by simp)).trans (if_neg h5)));have HE2:Hid (VH op vs hrs ZY gs ps qs=Qw op gs ps):=hide (Qa.out.trans ((if_neg (by simp)).trans (if_neg h5)));have zer:Jy op vs hrs ZY gs ps qs=(Xx op gs ps,0):=HAV.out.trans ((if_neg (by simp)).trans (if_neg h5));have zeq:Ml op vs hrs ZY gs ps qs=Qw op gs ps:=HAE.out.trans (if_neg (by simp));have eG:=fG (Also (Also P rb) (rb+1)) t es op vs ZY hrs HA hc gs GA gc ps PA pc qs QA qc w1 hP1 (LV.out _ HG.out) hw1 ht1 (by rcases HL.out with h|h;exact .inl h;exact .inr (by omega)) hr1;rw [zer,zeq] at eG;have vK:=hide eG;obtain ⟨val,hval⟩:=eE (Xx op gs ps);rw [<- hval] at vK HA2;clear hval zer zeq eG hK1 C1 hP1 ht1 hr1 hw1 hB1 hb1 hv1 zN Qa HAV HAE B1 hsub;go_wp2_with fail;refine vK.out.mono ?_;rintro e w2 ⟨rfl,hk2,ht2⟩;have C2:=nJ.out.kept hk2 (.inr rfl);have y0:=C2.q0 rfl;have y1:=C2.q1 rfl;have y2:=C2.q2 rfl;have g0:=C2.frozen 0;have g1:=C2.frozen 1;have g2:=C2.frozen 2;have HRR:=hide (((C2.set 0 (.int .i64 val)).set 1 (.int .i64 0)).set 2 (.slice none 0 0));have Ef:=hide (Po.out.trans (hk2.mono LV.out));have HT2:=hide ht2;clear hk2 ht2 C2 c0 c1 c2 c3 c4 c5 c6;go_wp2;refine bodyPost_ret (U8 rfl rfl HRR.out) rfl ?_;exact Pw HA2.out (by rw [HE2.out]) Ef.out Sg.out HT2.out (.inr rfl) LV.out (Sl.nil _ _ _) (fun h=>absurd rfl h)
 · have hen:¬ (err:Int)=0:=he;have HA2:Hid (Uw op vs hrs ZY gs ps qs=(Wv,err)):=hide (zN.out.trans (if_pos he));have HE2:Hid (VH op vs hrs ZY gs ps qs=[]):=hide (Qa.out.trans (if_pos he));have C2:=nJ.out;have y0:=C2.q0 rfl;have y1:=C2.q1 rfl;have y2:=C2.q2 rfl;have g0:=C2.frozen 0;have g1:=C2.frozen 1;have g2:=C2.frozen 2;have HRR:=hide (((C2.set 0 (.int .i64 0)).set 1 (.int .i64 0)).set 2 (.slice none 0 0));have HT2:=hide ht1;clear hK1 C1 hP1 ht1 hr1 hw1 hB1 hb1 hv1 zN Qa HAV HAE B1 hsub C2 c0 c1 c2 c3 c4 c5 c6;go_wp2;refine bodyPost_ret (U8 rfl rfl HRR.out) rfl ?_;exact Pw HA2.out (by rw [HE2.out,List.append_nil]) Po.out Sg.out HT2.out (.inr rfl) LV.out (Sl.nil _ _ _) (fun h=>absurd rfl h)
end
section
open Go.RowKit
def TG(g:Gr):Gr:=(⟨g.1.d,g.1.v,none,g.2.length,0⟩,g.2)
def cg(x:Gd):Gr:=(⟨x.1,x.2.1,none,x.2.2.length,0⟩,x.2.2)
theorem tO(gs:List Gr):(gs.map Oq).map cg=gs.map TG:=by rw [List.map_map];rfl
theorem Mr:∀ (gs:List Gr),(∀ g∈gs,g.1.n=g.2.length)->Yy ((gs.map TG).map (·.1))=Yy (gs.map (·.1))
 | [],_=>rfl
 | g::gs,h=>by
   have ih:=Mr gs fun x hx=>h x (List.mem_cons_of_mem _ hx);have hn:=h g (List.mem_cons_self ..);rw [List.map_cons,List.map_cons,List.map_cons,Yy,Yy,ih];show (if ZJ g.1.v=0 then _ else if ZJ g.1.v=(g.2.length:Int) then _ else _)=_;rw [<- hn]
theorem UM{gs:List Gr}(h:∀ g∈gs,g.1.n=g.2.length):YD ((gs.map TG).map (·.1))=YD (gs.map (·.1)):=by
 unfold YD;rw [Mr gs h,List.length_map,List.length_map,List.length_map]
theorem Uu{gs:List Gr}(h:∀ g∈gs,g.1.n=g.2.length):YN (gs.map TG)=YN gs:=by
 unfold YN ED;rw [UM h,List.foldl_map];rfl
theorem Nl{gs:List Gr}(h:∀ g∈gs,g.1.n=g.2.length)(p:Pt):WH (gs.map TG) p=WH gs p:=by
 unfold WH PU;rw [UM h,List.foldl_map];rfl
theorem Au:∀ (i:Nat) (gs:List Gr),WA i (gs.map TG)=WA i gs
 | _,[]=>rfl
 | i,g::gs=>by rw [List.map_cons,WA,WA,Au (i+1) gs];rfl
theorem Aq:∀ (i:Nat) (gs:List Gr),Xd i (gs.map TG)=Xd i gs
 | _,[]=>rfl
 | i,g::gs=>by rw [List.map_cons,Xd,Xd,Aq (i+1) gs];rfl
theorem tN{gs:List Gr}(h:∀ g∈gs,g.1.n=g.2.length):Zp (gs.map TG)=Zp gs:=by unfold Zp;rw [UM h,Au]
theorem tL{gs:List Gr}(h:∀ g∈gs,g.1.n=g.2.length):YI (gs.map TG)=YI gs:=by unfold YI;rw [UM h,Aq]
theorem nY{gs:List Gr}(h:∀ g∈gs,g.1.n=g.2.length)(qs:List ((Int × Int) × Int)):Y2 (gs.map TG) qs=Y2 gs qs:=by
 unfold Y2;refine List.map_congr_left fun q _=>?_;unfold hrec;rw [Uu h,Nl h]
theorem JH{gs:List Gr}(h:∀ g∈gs,g.1.n=g.2.length)(n:Nat):XY (gs.map TG) n=XY gs n:=by unfold XY;rw [UM h]
theorem JI{gs:List Gr}(h:∀ g∈gs,g.1.n=g.2.length)(qs:List ((Int × Int) × Int)):YO (gs.map TG) qs=YO gs qs:=by unfold YO;rw [JH h,Uu h,nY h]
theorem Ap{gs:List Gr}(h:∀ g∈gs,g.1.n=g.2.length)(n:Nat):XQ (gs.map TG) n=XQ gs n:=by unfold XQ XZ;rw [JH h,tN h,tL h]
theorem nX{gs:List Gr}(h:∀ g∈gs,g.1.n=g.2.length)(op:Int)(ps:List Pt):Xx op (gs.map TG) ps=Xx op gs ps:=by unfold Xx Xy;rw [Uu h,Nl h]
theorem fM{gs:List Gr}(h:∀ g∈gs,g.1.n=g.2.length)(op:Int)(ps:List Pt):Qw op (gs.map TG) ps=Qw op gs ps:=by unfold Qw Ll;rw [tN h,tL h]
def XW(q:Rq):bU:=if q.h.op=5 then (YO (q.gs.map cg) q.qs).1 else ⟨Xx q.h.op (q.gs.map cg) q.ps,0,[]⟩
def qEv(q:Rq):List Ev:=if q.h.op=5 then XQ (q.gs.map cg) q.qs.length else Qw q.h.op (q.gs.map cg) q.ps
def YE(bs:List Int):List Int:=if (Zr bs).2≠0 then [(Zr bs).2] else Zn (Zr bs).1.h.op (XW (Zr bs).1).val (XW (Zr bs).1).cnt (XW (Zr bs).1).recs
def OV(bs:List Int):List Ev:=if (Zr bs).2≠0 then [] else qEv (Zr bs).1
theorem J5:∀ (gs:List Gr) (hrs:List Rg),gs.length=hrs.length->(gs.zip hrs).any Vs=false->(gs.zip hrs).any TM=false->hrs.any Zq=false->Yy (gs.map (·.1))=0
 | [],[],_,_,_,_=>rfl
 | [],_::_,h,_,_,_=>by simp at h
 | _::_,[],h,_,_,_=>by simp at h
 | g::gs,r::hrs,hl,hs,hk,hw=>by
   rw [List.zip_cons_cons,List.any_cons,Bool.or_eq_false_iff] at hs hk;rw [List.any_cons,Bool.or_eq_false_iff] at hw;have a3:=J5 gs hrs (by simpa using hl) hs.2 hk.2 hw.2;have h1:(g.1.n:Int)=ZJ r.v:=(by have:=hs.1;unfold Vs at this;simpa using this);have h2:g.1.v=r.v:=by
    have:=hk.1;unfold TM at this;rw [Bool.or_eq_false_iff] at this;simpa using this.2
   have h3:ZJ r.v≠0:=(by have:=hw.1;unfold Zq at this;simpa using this);show Yy (g.1::gs.map (·.1))=0;unfold Yy;rw [h2,if_neg h3,if_pos h1.symm];exact a3
theorem lV(x:Int):0<=x.sign+1/\x.sign+1<=2:=by rcases W9 x with h|h|h <;> rw [h] <;> decide
theorem fF(op:Int)(gs:List Gr)(ps:List Pt):0<=Xx op gs ps/\(op≠5->Xx op gs ps<=most op):=by
 have hc:∀ ps p,0<=XE ps p/\XE ps p<=3:=fun ps p=>by
  have h:=FR (Xg (Z4 ps) ps p (List.range (Zy ps.length))).1 (Xg (Z4 ps) ps p (List.range (Zy ps.length))).2;have e:Fx ps p=KY (Xg (Z4 ps) ps p (List.range (Zy ps.length))).1 (Xg (Z4 ps) ps p (List.range (Zy ps.length))).2:=rfl;rw [<- e] at h;unfold XE;cases Un ps <;> simp <;> omega
 have hf:∀ p,0<=Xy gs p/\Xy gs p<=2:=fun p=>by
  unfold Xy;cases YN gs <;> cases WH gs p <;> decide
 unfold Xx most
 by_cases o1:op=1
 · rw [if_pos o1,if_neg (by omega),if_neg (by omega)];have:=lV (Zw (ZX ps 0) (ZX ps 1) (ZX ps 2));exact ⟨this.1,fun _=>this.2⟩
 rw [if_neg o1]
 by_cases o2:op=2
 · rw [if_pos o2,if_neg (by omega),if_neg (by omega)];have:=lV (Yq (ZX ps 0) (ZX ps 1) (ZX ps 2) (ZX ps 3));exact ⟨this.1,fun _=>this.2⟩
 rw [if_neg o2]
 by_cases o3:op=3
 · rw [if_pos o3,if_pos o3];have:=hc (ps.take (ps.length - 1)) (ZX ps (ps.length - 1));exact ⟨this.1,fun _=>this.2⟩
 rw [if_neg o3,if_neg o3];have:=hf (ZX ps 0);exact ⟨this.1,fun h5=>by rw [if_neg h5];exact this.2⟩
theorem GR{op vs ZY:Int}{hrs:List Rg}{gs:List Gr}{ps:List Pt}{qs:List ((Int × Int) × Int)}(h:(ZE op vs hrs ZY gs ps qs).2=0)(hn:∀ g∈gs,g.1.n=g.2.length)(hq:∀ q∈qs,Ua q.2){q:Rq}(e1:q.h.op=op)(e3:q.gs=gs.map Oq)(e4:q.ps=ps)(e5:q.qs=qs):
 Uw op vs hrs ZY gs ps qs=(XW q,0)/\VH op vs hrs ZY gs ps qs=qEv q/\Vr op ZY (XW q).val (XW q).cnt (XW q).recs=true/\ZM op vs hrs ZY=0:=by
 obtain ⟨hc,hgl,hpl,cZ,hsz,hkd⟩:=Kh h;obtain ⟨o1,o5,c3,c4,c5,c6,c7,c8,_⟩:=ZA hc;have hh:Uw op vs hrs ZY gs ps qs=if op=5 then YO gs qs else (⟨Xx op gs ps,0,[]⟩,0):=if_neg (by simpa using h);have he:VH op vs hrs ZY gs ps qs=if op=5 then XQ gs qs.length else Qw op gs ps:=if_neg (by simpa using h);rw [hh,he];unfold XW qEv;rw [e1,e3,e4,e5,tO,JI hn,Ap hn,nX hn,fM hn]
 by_cases h5:op=5
 · subst h5;rw [if_pos rfl,if_pos rfl,if_pos rfl];have hpt:=c7 rfl;have pU:(qs.length:Int)=ZY:=(by rw [cZ];unfold Xm;rw [if_neg (by omega)]);obtain ⟨l1,l2,l3⟩:=c5 (by omega);have hf:YD (gs.map (·.1))=0:=by
    unfold YD;rw [if_neg (by rw [List.length_map];omega)];exact J5 gs hrs hgl hsz hkd l3
   have hb:XY gs qs.length=0:=by
    unfold XY;rw [if_neg (by simpa using hf),if_neg (by omega)]
   have hr:YO gs qs=((YO gs qs).1,0):=(by unfold YO;rw [if_neg (by simpa using hb)]);refine ⟨hr,rfl,?_,hc⟩;rw [<- pU];exact Ak hq hb
 · rw [if_neg h5,if_neg h5,if_neg h5];refine ⟨rfl,rfl,?_,hc⟩;have hp:=c8 h5;have hb:=fF op gs ps;have hb2:=hb.2 h5;unfold Vr;dsimp only;rw [if_neg (by omega),if_neg (by omega),if_neg (by simp [hp]),if_neg (by omega),if_neg (by unfold IK;split <;> omega)];rfl
theorem tV{bs:List Int}{q:Rq}(hby:By bs)(hd:Zr bs=(q,0)){hrs:List Rg}{gs:List Gr}(hk:hrs.map Rg.key=q.h.rs.map Rg.key)(hg:gs.map Oq=q.gs)(hn:∀ g∈gs,g.1.n=g.2.length):
 ZE q.h.op q.h.vs hrs q.h.ZY gs q.ps q.qs=(bs,0):=by
 unfold Zr at hd
 by_cases hc:Y7 bs=0
 · rw [if_pos hc] at hd;obtain ⟨⟨h,n,er⟩,hp⟩:∃ r,r=ZW bs:=⟨_,rfl⟩;rw [<- hp] at hd;obtain ⟨z1,z2,z3,z4,z5,z6,_,_,z7⟩:=TI hp.symm hc;have hcan:=Nw bs (fun j x hj=>hby x (List.mem_of_getElem? hj));rw [<- hp] at hcan;obtain ⟨f1,f2,f3⟩:=hcan z1;dsimp only at f1 f2 f3 hd;have zii:bs=Zo h.op h.vs h.rs h.ZY++bs.drop n.toNat:=(by rw [f1,List.take_append_drop]);have hfmt:=I4 z2 (bs.drop n.toNat);rw [<- zii,<- hp] at hfmt;have jc:h.rs=h.rs.map Wm:=by
    have:=congrArg (fun r:PH × Int × Int=>r.1.rs) hfmt;exact this
   have hh:h=⟨h.op,h.vs,h.rs.map Wm,h.ZY⟩:=by
    have:=congrArg (fun r:PH × Int × Int=>r.1) hfmt;exact this
   have hq:Um h (bs.drop n.toNat)=q:=by
    have:=congrArg Prod.fst hd;exact this
   subst hq;have hl:((bs.drop n.toNat).length:Int)=16*(Zk h.rs:Int)+16*XI h.op h.vs+24*Xm h.op h.ZY:=(by rw [List.length_drop];omega);have key:=IY (hrs:=hrs) (gs:=gs) z2 hl (hby.drop _) (by rw [<- jc];exact hk) (by rw [<- jc];exact hg) hn;rw [<- jc] at key;have e:(Um ⟨h.op,h.vs,h.rs,h.ZY⟩ (bs.drop n.toNat))=Um h (bs.drop n.toNat):=rfl;rw [e] at key;rw [<- zii] at key;exact key
 · rw [if_neg hc] at hd;have:=congrArg Prod.snd hd;exact absurd this hc
end
end Go.Proofs.YthnenedoblncjaaGreatDoor