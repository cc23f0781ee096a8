/- FenceMember Engine Ops OpFns -/
import Derived.BigQuiet
import Derived.ChangeAlike
import Derived.Deep.QuietTactic
import Derived.Maps.OwnSet
import Derived.Test.YthnenedoblncjaaGreatDoorPkN28
set_option maxRecDepth 1000000
set_option maxHeartbeats 8000000
namespace Go.Proofs.YthnenedoblncjaaGreatDoor
open Go.Proofs.Tryz
open List (getElem_toArray getElem_cons_succ getElem_cons_zero setIfInBounds_toArray set_cons_zero set_cons_succ)
section
open Go.RowKit Go.Shelf
def YC:Nat->List Gr->List Ev
 | _,[]=>[]
 | i,g::gs=>(7,(i:Int),1)::(VE g.1.v g.2.length++YC (i+1) gs)
theorem Rf:∀ (i:Nat) (l:List Gr) (g:Gr),YC i (l++[g])=YC i l++((7,((i+l.length:Nat):Int),1)::VE g.1.v g.2.length)
 | i,[],g=>by simp [YC]
 | i,x::l,g=>by
   have h:=Rf (i+1) l g;have e:i+1+l.length=i+(x::l).length:=(by simp;omega);rw [List.cons_append,YC,h,YC,e];simp
theorem Kk{gs:List Gr}{k:Nat}{g:Gr}(h:gs[k]?=some g):YC 0 (gs.take (k+1))=YC 0 (gs.take k)++((7,(k:Int),1)::VE g.1.v g.2.length):=by
 have hlt:k<gs.length:=(List.getElem?_eq_some_iff.1 h).1;rw [List.take_add_one,h];show YC 0 (gs.take k++[g])=_;rw [Rf,List.length_take,Nat.min_eq_left (Nat.le_of_lt hlt),Nat.zero_add]
theorem Wd:∀ (i:Nat) (l:List Gr),(YC i l).length<=65*l.length
 | i,[]=>by simp [YC]
 | i,x::l=>by
   have h:=Wd (i+1) l;have h2:=QK x.1.v x.2.length;simp only [YC,List.length_cons,List.length_append];omega
def Vr(p:Pt)(gs:List Gr):Bool × Bool:=gs.foldl (fun s g=>bif g.1.d then (s.1,s.2 || !decide (Dq g.1.v g.2 p<0)) else (s.1 || !decide (Dq g.1.v g.2 p<0),s.2)) (false,false)
theorem KF{gs:List Gr}{k:Nat}{g:Gr}(p:Pt)(h:gs[k]?=some g):Vr p (gs.take (k+1)) =
 (bif g.1.d then ((Vr p (gs.take k)).1,(Vr p (gs.take k)).2 || !decide (Dq g.1.v g.2 p<0)) else ((Vr p (gs.take k)).1 || !decide (Dq g.1.v g.2 p<0),(Vr p (gs.take k)).2)):=by
 unfold Vr;rw [List.take_add_one,h];simp
def YA(gs:List Gr)(p:Pt):Bool:=decide (Zt (gs.map (·.1))=0) && ((Vr p gs).1 && !(Vr p gs).2)
def Zl(gs:List Gr):List Ev:=if Zt (gs.map (·.1))=0 then YC 0 gs else []
theorem FE(a b:Bool):-1<=NI a b/\NI a b<=1:=by cases a <;> cases b <;> decide
theorem Cg(v:Int)(ps:List Pt)(p:Pt):-1<=Dq v ps p/\Dq v ps p<=1:=by
 unfold Dq;split
 · unfold U6;split
   · rcases Yd (YF (Z5 ps 0) (Z5 ps 1) (Z5 ps 2) p) with h|h|h <;> rcases Yd (ZL (Z5 ps 0) (Z5 ps 1) (Z5 ps 2)) with h'|h'|h' <;> rw [h,h'] <;> decide
   · decide
 · exact FE _ _
theorem Nj(a b:Bool):bits BinOp.andNot IntKind.u64 (ZU a) (ZU b)=ZU (a && !b):=by cases a <;> cases b <;> decide
theorem Z9.mono'{w0 wk:World}{P R:Nat->Prop}{b:Nat}(h:Z9 R w0 wk)(iK:∀ k,P k->R k)(hb:¬ P b)(o:Nat)(u:Value):Z9 P w0 (wk.setCell ⟨b,o,none⟩ u) :=
 (h.mono iK).trans (Z9.setCell hb o u wk)
theorem Yg(P:Nat->Prop)(t:Option (Nat × Nat))(es:List Ev)(gs:List Gr)(GA:Option Addr)(gc:Nat)(p:Pt)(hp:PJ p)(w:World)(hP:∀ k,P k->k<w.heap.size)(hg0:P 8)(hs:Wx w P GA (rgCells (gs.map (·.1))))(hgs:Jt w P gs)(hw:MW w)(ht:Tp w P t es)(hl:es.length<=890000):
 Calls prog 197 #[.pointer (ZT t),.slice GA gs.length gc,.agg #[.int .i64 p.1,.int .i64 p.2]] w fun e w'=>e=.returned (.int .u64 (ZU (YA gs p)))/\Z9 P w w'/\Tp w' P t (es++Zl gs):=by
 obtain ⟨w0,hw0⟩:=eE (w.alloc (.cells #[.int .i64 p.1,.int .i64 p.2] 41));obtain ⟨pb,hpb⟩:=eE w.heap.size;have hb0:=bE hw0;have P0:Z6 w0 pb 41 #[.int .i64 p.1,.int .i64 p.2]:=by rw [hw0,hpb];exact Z6.new _ _ _
 have JK:=Vo (gs.map (·.1)) GA gc w0 (((hs.sl hP).below hb0).more hb0.size);rw [List.length_map] at JK;have HC:=hide JK;clear JK
 by_cases hf:Zt (gs.map (·.1))=0
 · have ow:gs.length<=64:=by
    unfold Zt at hf;split at hf
    · omega
    · rename_i h;rw [List.length_map] at h;omega
   have e1:YA gs p=((Vr p gs).1 && !(Vr p gs).2):=(by unfold YA;rw [decide_eq_true hf];rfl);have e2:Zl gs=YC 0 gs:=(by unfold Zl;rw [if_pos hf]);rw [e1,e2];rw [hf] at HC;have HP:=hide hP;have Sj:=hide hg0;have HS:=hide hs;have JL:=hide hgs;have HW:=hide hw;have HT:=hide ht;have rM:=hide hp;clear hf e1 e2 hP hg0 hs hgs hw ht hp;refine (callsIn_wide (n:=6)).1 ?_;refine callsIn_of_wp func197 rfl trivial ?_ rfl;simp only [ntmps197,List.size_toArray,List.length_cons,List.length_nil,Nat.reduceAdd,Nat.reduceSub,Array.replicate_succ,Array.replicate_zero,List.push_toArray,List.append_toArray,List.nil_append,List.cons_append];gi_wp2_with fail;rw [<- hw0,<- hpb];have HW0:=hide hw0;clear hw0;refine ⟨trivial,?_⟩;refine (callsIn_wide.2 HC.out).mono ?_;rintro e w1 ⟨rfl,hb1⟩;have l5:=hide (Z8 hb0 hb1);have P1:=P0.step hb1;clear hb1 HC hb0;obtain ⟨W2,hW2⟩:=eE (w1.alloc (.cells #[.int .u64 0,.int .u64 0] 311));obtain ⟨ab,hab⟩:=eE w1.heap.size;have hB2:Below w.heap.size w W2:=(by rw [hW2];exact ZY l5.out _);have A2:Z6 W2 ab 311 #[.int .u64 (ZU false),.int .u64 (ZU false)]:=(by rw [hW2,hab];exact Z6.new _ _ _);have P2:Z6 W2 pb 41 #[.int .i64 p.1,.int .i64 p.2]:=(by rw [hW2];exact P1.alloc _);have hpa:pb<ab:=(by rw [hab];exact P1.lt);have FX:Hid (More P w W2 pb):=.inr ⟨by omega,P2.lt⟩;have Dy:Hid (More P w W2 ab):=.inr ⟨by omega,A2.lt⟩;have pQ:Hid (¬ P ab):=fun h=>by have:=HP.out _ h;omega
   have yY:=hide (XZ HP.out hB2);have Ui:=hide (Z9.of_below hB2 HP.out);have HT2:=hide (HT.out.more hB2);have hsz2:ab<W2.heap.size:=A2.lt;have YD:prog.follows .mixedOrders=true:=(by kernel_rfl);have bP:=hide hpb;have lY:=hide hab;have bR:=hide hW2;clear P1 hB2 hpb;gi_wp2_with fail;rw [<- hW2,<- hab];clear hW2 hab
   gi_loopw [16] (fun i wr=>∃ (k:Nat) (s0 s1:Bool),k<=gs.length/\i=.int .i64 k/\Hid (Vr p (gs.take k)=(s0,s1))/\Z6 wr ab 311 #[.int .u64 (ZU s0),.int .u64 (ZU s1)]/\Z6 wr pb 41 #[.int .i64 p.1,.int .i64 p.2]/\Z9 P W2 wr/\Tp wr (More P w W2) t (es++YC 0 (gs.take k)))
    (fun i _=>gs.length - (intOf i).toNat)
   case atStart=>exact ⟨0,false,false,Nat.zero_le _,rfl,hide rfl,A2,P2,Z9.refl _ _,by simpa [YC] using HT2.out⟩
   case round =>
    clear A2 P2;obtain ⟨k,s0,s1,hk,rfl,hst,Ar,Pr,hkp,htp⟩:=hrel
    by_cases hlt:k<gs.length
    · obtain ⟨g,hg⟩:∃ g,gs[k]?=some g:=⟨_,List.getElem?_eq_getElem hlt⟩;obtain ⟨hgn,Ic,Ie,hpn⟩:=JL.out g (List.mem_of_getElem? hg);have hr:(gs.map (·.1))[k]?=some g.1:=(by rw [List.getElem?_map,hg];rfl);obtain ⟨b,off,rfl,hB,c0,c1,c2⟩:=((HS.out.kept (Ui.out.trans hkp)).sl (fun j hj=>Nat.lt_of_lt_of_le (HP.out j hj) (Ui.out.trans hkp).size)).rg hr;have HE:=hide (Kk hg);have HM:=KF p hg;rw [hst.out] at HM;have HM:=hide HM;have RZ:((k:Nat):Int)<((gs.length:Nat):Int):=(by omega);obtain ⟨⟨d,v,A,n,c⟩,ps⟩:=g;dsimp only at *;subst hgn;clear hg hr;obtain ⟨L,hL⟩:=eE (Dq v ps p);have Dx:=hide (Cg v ps p);rw [<- hL] at Dx HM;have hrs:ab<wr.heap.size:=Ar.lt;have hle0:(es++YC 0 (gs.take k)).length<=899000:=by
       have:=Wd 0 (gs.take k);rw [List.length_take] at this;rw [List.length_append];omega
      have hle:(es++YC 0 (gs.take k)++[(7,(k:Int),1)]).length<=900000:=by
       rw [List.length_append];simp only [List.length_singleton];omega
      obtain ⟨w3,hw3⟩:=eE (wr.alloc (.cells #[.bool d,.int .i64 v,.slice A ps.length c] 38));have hb3:=bE hw3;have B3:Z6 w3 wr.heap.size 38 #[.bool d,.int .i64 v,.slice A ps.length c]:=(by rw [hw3];exact Z6.new _ _ _);have A3:=Ar.step hb3;have P3:=Pr.step hb3
      have Qu:∀ j,Also (More P w W2) wr.heap.size j->j<w3.heap.size:=fun j hj=>by
       have h1:=B3.lt;have h2:=A3.lt;rcases hj with hj|hj
       · have:=yY.out j hj;have:=hkp.size;omega
       · subst hj;exact h1
      have ht3:Tp w3 (Also (More P w W2) wr.heap.size) t (es++YC 0 (gs.take k)):=(htp.add fun j hj=>by
       rcases hj with hj|hj
       · exact .inl hj
       · exact .inr (by omega)).step hb3
      have Ww:=hide (Yl (Also (More P w W2) wr.heap.size) t (es++YC 0 (gs.take k)) 7 (k:Int) 1 w3 Qu ht3 (by omega) (by unfold Zj;omega));have sS:∀ j,P j->Also (More P w W2) wr.heap.size j:=fun j hj=>.inl (.inl hj);have UC:=hide sS;have RY:Z9 P W2 w3:=hkp.trans (Z9.of_below hb3 fun j hj=>Nat.lt_of_lt_of_le (HP.out j hj) (Ui.out.trans hkp).size);have rC:=hide RY;have Gl:=hide Qu
      have YG:Hid (∀ n0 n1:Bool,(bif d then (s0,s1 || !decide (L<0)) else (s0 || !decide (L<0),s1))=(n0,n1)->∀ w8,Z6 w8 ab 311 #[.int .u64 (ZU n0),.int .u64 (ZU n1)]->Z6 w8 pb 41 #[.int .i64 p.1,.int .i64 p.2]->Z9 P W2 w8->Tp w8 (More P w W2) t (es++YC 0 (gs.take k)++[(7,(k:Int),1)]++VE v ps.length) ->
       Hid (Vr p (gs.take (k+1))=(n0,n1))/\Z6 w8 ab 311 #[.int .u64 (ZU n0),.int .u64 (ZU n1)]/\Z6 w8 pb 41 #[.int .i64 p.1,.int .i64 p.2]/\Z9 P W2 w8/\Tp w8 (More P w W2) t (es++YC 0 (gs.take (k+1)))):=hide fun n0 n1 hn w8 h1 h2 h3 h4=>⟨hide (HM.out.trans hn),h1,h2,h3,by
       rw [HE.out];rw [show es++(YC 0 (gs.take k)++((7,(k:Int),1)::VE v ps.length))=es++YC 0 (gs.take k)++[(7,(k:Int),1)]++VE v ps.length by simp]
       exact h4⟩
      have rE:=hide hle;have rQ:=hide Ic;have rR:=hide Ie;have fK:=hide hpn;have yX:=hide hL;clear HE hle0 hle hb3 htp hkp Qu hB ht3 RY sS Ar Pr HM hst Ic Ie hpn hL;gi_wp2_with fail;rw [<- hw3];clear hw3;refine ⟨trivial,?_⟩;refine (callsIn_wide.2 Ww.out).mono ?_;rintro e w4 ⟨rfl,hk4,_,Qc⟩;have B4:=B3.kept hk4 (.inr rfl);have A4:=A3.kept hk4 (.inl Dy.out);have P4:=P3.kept hk4 (.inl FX.out);have Wz:Z9 P W2 w4:=rC.out.trans (hk4.mono UC.out);have Dz:Hid (∀ j,Also (More P w W2) wr.heap.size j->j<w4.drew.heap.size):=fun j hj=>Nat.lt_of_lt_of_le (Gl.out j hj) hk4.size;clear hk4 B3 A3 P3 Ww rC Gl c0 c1 c2
      by_cases hv:v=0
      · have hL2:L=U6 ps p:=yX.out.trans (if_pos hv);have Ob:VE v ps.length=XU ps.length:=if_pos hv;rw [Ob] at YG;have HLOC:=hide (fun (w5:World) (h1:Z9 P W2 w5) (h0:∀ j,Also (More P w W2) wr.heap.size j->j<w5.heap.size) (h2:Tp w5 (Also (More P w W2) wr.heap.size) t (es++YC 0 (gs.take k)++[(7,(k:Int),1)]))=>PI (Also (More P w W2) wr.heap.size) t (es++YC 0 (gs.take k)++[(7,(k:Int),1)]) d 0 ps rR.out A c w5 h0 (UC.out _ Sj.out) ((rQ.out.kept (Ui.out.trans h1)).mono UC.out) (HW.out.kept (Ui.out.trans h1) Sj.out) h2 rE.out p rM.out);rw [<- hL2] at HLOC;subst hv;clear Ob hL2 yX;cases d with
        | false =>
          have z0:w4.cell? ⟨wr.heap.size,0,none⟩=some (.bool false):=B4.q0 rfl;gi_wp2_with fail;clear z0;refine YO 12 (S:=fun w'=>Z6 w' ab 311 #[.int .u64 (ZU s0),.int .u64 (ZU s1)]/\Z6 w' wr.heap.size 38 #[.bool false,.int .i64 0,.slice A ps.length c]/\Z6 w' pb 41 #[.int .i64 p.1,.int .i64 p.2]) YD ?_;have hS:Z6 w4.drew ab 311 #[.int .u64 (ZU s0),.int .u64 (ZU s1)]/\Z6 w4.drew wr.heap.size 38 #[.bool false,.int .i64 0,.slice A ps.length c]/\Z6 w4.drew pb 41 #[.int .i64 p.1,.int .i64 p.2]:=⟨A4.drew,B4.drew,P4.drew⟩;refine' ZW (i:=0) rfl ?Xg hS ?VZ
          case Xg =>
           intro w' hSw;go_simp;rfl
          simp only [Act.put,getElem_toArray,getElem_cons_zero,setIfInBounds_toArray,set_cons_zero,set_cons_succ];refine' ZW (i:=1) rfl ?Xh hS ?V3
          case Xh =>
           intro w' hSw;go_simp;rfl
          simp only [Act.put,Z4];refine' ZW (i:=2) rfl ?Xj hS ?V4
          case Xj =>
           intro w' hSw;obtain ⟨r1,r2,r3⟩:=hSw;have z1:w'.cell? ⟨ab,0,none⟩=some (.int .u64 (ZU s0)):=r1.q0 rfl;go_simp;rfl
          simp only [Act.put,Z4];refine' ZW (i:=3) rfl ?Wm hS ?Vg
          case Wm =>
           intro w' hSw;obtain ⟨r1,r2,r3⟩:=hSw;have z1:=r2.q0 rfl;have z2:=r2.q1 rfl;have z3:=r2.q2 rfl;go_simp;rfl
          simp only [Act.put,Z4];refine' ZW (i:=5) rfl ?Ij hS ?Fp
          case Ij =>
           intro w' hSw;go_simp;rfl
          simp only [Act.put,Z4];refine' ZW (i:=6) rfl ?Ik hS ?Fq
          case Ik =>
           intro w' hSw;obtain ⟨r1,r2,r3⟩:=hSw;have z1:=r3.q0 rfl;have z2:=r3.q1 rfl;go_simp;rfl
          simp only [Act.put,Z4];refine Zc (i:=4) (by kernel_rfl) rfl ?_;intro K hK;rw [if_pos (by rfl)];go_simp;refine ⟨trivial,?_⟩;refine (callsIn_wide.2 (Yc _ A ps.length c _)).mono ?_;rintro e w5 ⟨rfl,hb5⟩;have hS5:Z6 w5 ab 311 #[.int .u64 (ZU s0),.int .u64 (ZU s1)]/\Z6 w5 wr.heap.size 38 #[.bool false,.int .i64 0,.slice A ps.length c]/\Z6 w5 pb 41 #[.int .i64 p.1,.int .i64 p.2]:=⟨A4.drew.step hb5,B4.drew.step hb5,P4.drew.step hb5⟩;refine hK.out _ _ (fun _=>hS5) ?_;clear hK K;have hk5:Z9 (Also (More P w W2) wr.heap.size) w4 w5:=(Z9.drew _ _).trans (Z9.of_below hb5 Dz.out);have VB:=Qc.drew.step hb5
          (try simp only [Act.put,Z4])
          have HV:=hide (HLOC.out w5 (Wz.trans (hk5.mono UC.out)) (fun j hj=>Nat.lt_of_lt_of_le (Dz.out j hj) hb5.size) VB);have hmr:=Ut;refine Zc (i:=7) (by kernel_rfl) rfl ?_;intro K hK;rw [if_pos (by rfl)];go_simp;refine ⟨trivial,?_⟩;refine (callsIn_wide.2 HV.out).mono ?_;rintro e w6 ⟨rfl,Xe,OX⟩;obtain ⟨a5,b5,p5⟩:=hS5;have Wy:Z6 w6 ab 311 #[.int .u64 (ZU s0),.int .u64 (ZU s1)]/\Z6 w6 wr.heap.size 38 #[.bool false,.int .i64 0,.slice A ps.length c]/\Z6 w6 pb 41 #[.int .i64 p.1,.int .i64 p.2]:=⟨a5.kept Xe (.inl Dy.out),b5.kept Xe (.inr rfl),p5.kept Xe (.inl FX.out)⟩;refine hK.out _ _ (fun _=>Wy) ?_;clear hK K hmr HV;have TV:=hide (YZ L (by have:=Dx.out;omega) (by have:=Dx.out;omega) w6)
          (try simp only [Act.put,Z4])
          refine Zc (i:=8) (by kernel_rfl) rfl ?_;intro K hK;rw [if_pos (by rfl)];go_simp;refine ⟨trivial,?_⟩;refine (callsIn_wide.2 TV.out).mono ?_;rintro e w7 ⟨rfl,rfl⟩;refine hK.out _ _ (fun _=>Wy) ?_;clear hK K TV;have hnt:=VU (decide (L<0));have M6:bits BinOp.xor IntKind.u64 (if IntKind.u64.signed=true then -1 else IntKind.u64.max) (ZU (decide (L<0)))=ZU (!decide (L<0)):=hnt;have hor:=Wq s0 (!decide (L<0))
          (try simp only [Act.put,Z4])
          refine' ZW (i:=9) rfl ?vo Wy ?qN
          case vo =>
           intro w' hSw;go_simp;rfl
          simp only [Act.put,Z4];refine' ZW (i:=10) rfl ?Al Wy ?vO
          case Al =>
           intro w' hSw;go_simp;rfl
          simp only [Act.put,Z4];refine' ZW (i:=11) rfl ?Am Wy ?vP
          case Am =>
           intro w' hSw;go_simp;rfl
          simp only [Act.put,Z4];obtain ⟨a6,b6,p6⟩:=Wy;have c7:w6.cell? ⟨ab,0,none⟩=some (.int .u64 (ZU s0)):=a6.q0 rfl;have f7:=a6.frozen 0;refine Zc (i:=12) (by kernel_rfl) rfl ?_;intro K hK;rw [if_pos (by rfl)];go_simp;refine hK.out _ _ (fun h=>absurd rfl h) ?_;clear hK K;refine Ye (by kernel_rfl) ?_ _;have a7:Z6 (w6.setCell ⟨ab,0,none⟩ (.int .u64 (ZU (s0 || !decide (L<0))))) ab 311 #[.int .u64 (ZU (s0 || !decide (L<0))),.int .u64 (ZU s1)]:=a6.set 0 (.int .u64 (ZU (s0 || !decide (L<0))));have p7:=p6.far (p:=⟨ab,0,none⟩) (by dsimp only;omega) (.int .u64 (ZU (s0 || !decide (L<0))));have t7:=(OX.mono (R:=More P w W2) fun j h=>.inl h).set (b:=ab) Dy.out 0 (.int .u64 (ZU (s0 || !decide (L<0))));have k7:Z9 P W2 (w6.setCell ⟨ab,0,none⟩ (.int .u64 (ZU (s0 || !decide (L<0))))):=(Wz.trans ((hk5.trans Xe).mono UC.out)).mono' (fun j h=>h) pQ.out 0 (.int .u64 (ZU (s0 || !decide (L<0))));have Xt:=hide (YG.out _ _ rfl _ a7 p7 k7 t7);clear a7 p7 t7 k7 a6 b6 p6 c7 f7 hS a5 b5 p5 hk5 VB hb5 Xe OX Wz Qc A4 B4 P4 YG HLOC hnt M6 hor;gi_wp2;go_roundw
          case rel=>exact ⟨k+1,_,_,by omega,by go_num,Xt.out⟩
          case measure=>simp [intOf];omega
        | true =>
          have z0:w4.cell? ⟨wr.heap.size,0,none⟩=some (.bool true):=B4.q0 rfl;gi_wp2_with fail;clear z0;refine YO 12 (S:=fun w'=>Z6 w' ab 311 #[.int .u64 (ZU s0),.int .u64 (ZU s1)]/\Z6 w' wr.heap.size 38 #[.bool true,.int .i64 0,.slice A ps.length c]/\Z6 w' pb 41 #[.int .i64 p.1,.int .i64 p.2]) YD ?_;have hS:Z6 w4.drew ab 311 #[.int .u64 (ZU s0),.int .u64 (ZU s1)]/\Z6 w4.drew wr.heap.size 38 #[.bool true,.int .i64 0,.slice A ps.length c]/\Z6 w4.drew pb 41 #[.int .i64 p.1,.int .i64 p.2]:=⟨A4.drew,B4.drew,P4.drew⟩;refine' ZW (i:=0) rfl ?Ag hS ?vJ
          case Ag =>
           intro w' hSw;go_simp;rfl
          simp only [Act.put,getElem_toArray,getElem_cons_zero,setIfInBounds_toArray,set_cons_zero,set_cons_succ];refine' ZW (i:=1) rfl ?Ap hS ?vU
          case Ap =>
           intro w' hSw;go_simp;rfl
          simp only [Act.put,Z4];refine' ZW (i:=2) rfl ?Ay hS ?vZ
          case Ay =>
           intro w' hSw;obtain ⟨r1,r2,r3⟩:=hSw;have z1:w'.cell? ⟨ab,1,none⟩=some (.int .u64 (ZU s1)):=r1.q1 rfl;go_simp;rfl
          simp only [Act.put,Z4];refine' ZW (i:=3) rfl ?AO hS ?wC
          case AO =>
           intro w' hSw;obtain ⟨r1,r2,r3⟩:=hSw;have z1:=r2.q0 rfl;have z2:=r2.q1 rfl;have z3:=r2.q2 rfl;go_simp;rfl
          simp only [Act.put,Z4];refine' ZW (i:=5) rfl ?AZ hS ?wJ
          case AZ =>
           intro w' hSw;go_simp;rfl
          simp only [Act.put,Z4];refine' ZW (i:=6) rfl ?Bf hS ?wO
          case Bf =>
           intro w' hSw;obtain ⟨r1,r2,r3⟩:=hSw;have z1:=r3.q0 rfl;have z2:=r3.q1 rfl;go_simp;rfl
          simp only [Act.put,Z4];refine Zc (i:=4) (by kernel_rfl) rfl ?_;intro K hK;rw [if_pos (by rfl)];go_simp;refine ⟨trivial,?_⟩;refine (callsIn_wide.2 (Yc _ A ps.length c _)).mono ?_;rintro e w5 ⟨rfl,hb5⟩;have hS5:Z6 w5 ab 311 #[.int .u64 (ZU s0),.int .u64 (ZU s1)]/\Z6 w5 wr.heap.size 38 #[.bool true,.int .i64 0,.slice A ps.length c]/\Z6 w5 pb 41 #[.int .i64 p.1,.int .i64 p.2]:=⟨A4.drew.step hb5,B4.drew.step hb5,P4.drew.step hb5⟩;refine hK.out _ _ (fun _=>hS5) ?_;clear hK K;have hk5:Z9 (Also (More P w W2) wr.heap.size) w4 w5:=(Z9.drew _ _).trans (Z9.of_below hb5 Dz.out);have VB:=Qc.drew.step hb5
          (try simp only [Act.put,Z4])
          have HV:=hide (HLOC.out w5 (Wz.trans (hk5.mono UC.out)) (fun j hj=>Nat.lt_of_lt_of_le (Dz.out j hj) hb5.size) VB);have hmr:=Ut;refine Zc (i:=7) (by kernel_rfl) rfl ?_;intro K hK;rw [if_pos (by rfl)];go_simp;refine ⟨trivial,?_⟩;refine (callsIn_wide.2 HV.out).mono ?_;rintro e w6 ⟨rfl,Xe,OX⟩;obtain ⟨a5,b5,p5⟩:=hS5;have Wy:Z6 w6 ab 311 #[.int .u64 (ZU s0),.int .u64 (ZU s1)]/\Z6 w6 wr.heap.size 38 #[.bool true,.int .i64 0,.slice A ps.length c]/\Z6 w6 pb 41 #[.int .i64 p.1,.int .i64 p.2]:=⟨a5.kept Xe (.inl Dy.out),b5.kept Xe (.inr rfl),p5.kept Xe (.inl FX.out)⟩;refine hK.out _ _ (fun _=>Wy) ?_;clear hK K hmr HV;have TV:=hide (YZ L (by have:=Dx.out;omega) (by have:=Dx.out;omega) w6)
          (try simp only [Act.put,Z4])
          refine Zc (i:=8) (by kernel_rfl) rfl ?_;intro K hK;rw [if_pos (by rfl)];go_simp;refine ⟨trivial,?_⟩;refine (callsIn_wide.2 TV.out).mono ?_;rintro e w7 ⟨rfl,rfl⟩;refine hK.out _ _ (fun _=>Wy) ?_;clear hK K TV;have hnt:=VU (decide (L<0));have M6:bits BinOp.xor IntKind.u64 (if IntKind.u64.signed=true then -1 else IntKind.u64.max) (ZU (decide (L<0)))=ZU (!decide (L<0)):=hnt;have hor:=Wq s1 (!decide (L<0))
          (try simp only [Act.put,Z4])
          refine' ZW (i:=9) rfl ?Bt Wy ?wW
          case Bt =>
           intro w' hSw;go_simp;rfl
          simp only [Act.put,Z4];refine' ZW (i:=10) rfl ?Eo Wy ?yB
          case Eo =>
           intro w' hSw;go_simp;rfl
          simp only [Act.put,Z4];refine' ZW (i:=11) rfl ?Et Wy ?yF
          case Et =>
           intro w' hSw;go_simp;rfl
          simp only [Act.put,Z4];obtain ⟨a6,b6,p6⟩:=Wy;have c7:w6.cell? ⟨ab,1,none⟩=some (.int .u64 (ZU s1)):=a6.q1 rfl;have f7:=a6.frozen 1;refine Zc (i:=12) (by kernel_rfl) rfl ?_;intro K hK;rw [if_pos (by rfl)];go_simp;refine hK.out _ _ (fun h=>absurd rfl h) ?_;clear hK K;refine Ye (by kernel_rfl) ?_ _;have a7:Z6 (w6.setCell ⟨ab,1,none⟩ (.int .u64 (ZU (s1 || !decide (L<0))))) ab 311 #[.int .u64 (ZU s0),.int .u64 (ZU (s1 || !decide (L<0)))]:=a6.set 1 (.int .u64 (ZU (s1 || !decide (L<0))));have p7:=p6.far (p:=⟨ab,1,none⟩) (by dsimp only;omega) (.int .u64 (ZU (s1 || !decide (L<0))));have t7:=(OX.mono (R:=More P w W2) fun j h=>.inl h).set (b:=ab) Dy.out 1 (.int .u64 (ZU (s1 || !decide (L<0))));have k7:Z9 P W2 (w6.setCell ⟨ab,1,none⟩ (.int .u64 (ZU (s1 || !decide (L<0))))):=(Wz.trans ((hk5.trans Xe).mono UC.out)).mono' (fun j h=>h) pQ.out 1 (.int .u64 (ZU (s1 || !decide (L<0))));have Xt:=hide (YG.out _ _ rfl _ a7 p7 k7 t7);clear a7 p7 t7 k7 a6 b6 p6 c7 f7 hS a5 b5 p5 hk5 VB hb5 Xe OX Wz Qc A4 B4 P4 YG HLOC hnt M6 hor;gi_wp2;go_roundw
          case rel=>exact ⟨k+1,_,_,by omega,by go_num,Xt.out⟩
          case measure=>simp [intOf];omega
      · have hL2:L=EI ps p:=yX.out.trans (if_neg hv);have Ob:VE v ps.length=YV (List.range (Zw ps.length)):=if_neg hv;rw [Ob] at YG;have HLOC:=hide (fun (w5:World) (h1:Z9 P W2 w5) (h0:∀ j,Also (More P w W2) wr.heap.size j->j<w5.heap.size) (h2:Tp w5 (Also (More P w W2) wr.heap.size) t (es++YC 0 (gs.take k)++[(7,(k:Int),1)]))=>Qm (Also (More P w W2) wr.heap.size) t (es++YC 0 (gs.take k)++[(7,(k:Int),1)]) d v ps rR.out fK.out A c w5 h0 (UC.out _ Sj.out) ((rQ.out.kept (Ui.out.trans h1)).mono UC.out) (HW.out.kept (Ui.out.trans h1) Sj.out) h2 rE.out p rM.out);rw [<- hL2] at HLOC;have hvb:(v == 0)=false:=(by simpa using hv);clear Ob hL2 yX;cases d with
        | false =>
          have z0:w4.cell? ⟨wr.heap.size,0,none⟩=some (.bool false):=B4.q0 rfl;gi_wp2_with fail;clear z0;refine YO 12 (S:=fun w'=>Z6 w' ab 311 #[.int .u64 (ZU s0),.int .u64 (ZU s1)]/\Z6 w' wr.heap.size 38 #[.bool false,.int .i64 v,.slice A ps.length c]/\Z6 w' pb 41 #[.int .i64 p.1,.int .i64 p.2]) YD ?_;have hS:Z6 w4.drew ab 311 #[.int .u64 (ZU s0),.int .u64 (ZU s1)]/\Z6 w4.drew wr.heap.size 38 #[.bool false,.int .i64 v,.slice A ps.length c]/\Z6 w4.drew pb 41 #[.int .i64 p.1,.int .i64 p.2]:=⟨A4.drew,B4.drew,P4.drew⟩;refine' ZW (i:=0) rfl ?Ai hS ?vL
          case Ai =>
           intro w' hSw;go_simp;rfl
          simp only [Act.put,getElem_toArray,getElem_cons_zero,setIfInBounds_toArray,set_cons_zero,set_cons_succ];refine' ZW (i:=1) rfl ?Au hS ?vW
          case Au =>
           intro w' hSw;go_simp;rfl
          simp only [Act.put,Z4];refine' ZW (i:=2) rfl ?AA hS ?wo
          case AA =>
           intro w' hSw;obtain ⟨r1,r2,r3⟩:=hSw;have z1:w'.cell? ⟨ab,0,none⟩=some (.int .u64 (ZU s0)):=r1.q0 rfl;go_simp;rfl
          simp only [Act.put,Z4];refine' ZW (i:=3) rfl ?AP hS ?wD
          case AP =>
           intro w' hSw;obtain ⟨r1,r2,r3⟩:=hSw;have z1:=r2.q0 rfl;have z2:=r2.q1 rfl;have z3:=r2.q2 rfl;go_simp;rfl
          simp only [Act.put,Z4];refine' ZW (i:=5) rfl ?Ba hS ?wK
          case Ba =>
           intro w' hSw;go_simp;rfl
          simp only [Act.put,Z4];refine' ZW (i:=6) rfl ?Bg hS ?wP
          case Bg =>
           intro w' hSw;obtain ⟨r1,r2,r3⟩:=hSw;have z1:=r3.q0 rfl;have z2:=r3.q1 rfl;go_simp;rfl
          simp only [Act.put,Z4];refine Zc (i:=4) (by kernel_rfl) rfl ?_;intro K hK;rw [if_pos (by rfl)];go_simp;refine ⟨trivial,?_⟩;refine (callsIn_wide.2 (Yn _ v hvb A ps.length c _)).mono ?_;rintro e w5 ⟨rfl,hb5⟩;have hS5:Z6 w5 ab 311 #[.int .u64 (ZU s0),.int .u64 (ZU s1)]/\Z6 w5 wr.heap.size 38 #[.bool false,.int .i64 v,.slice A ps.length c]/\Z6 w5 pb 41 #[.int .i64 p.1,.int .i64 p.2]:=⟨A4.drew.step hb5,B4.drew.step hb5,P4.drew.step hb5⟩;refine hK.out _ _ (fun _=>hS5) ?_;clear hK K;have hk5:Z9 (Also (More P w W2) wr.heap.size) w4 w5:=(Z9.drew _ _).trans (Z9.of_below hb5 Dz.out);have VB:=Qc.drew.step hb5
          (try simp only [Act.put,Z4])
          have HV:=hide (HLOC.out w5 (Wz.trans (hk5.mono UC.out)) (fun j hj=>Nat.lt_of_lt_of_le (Dz.out j hj) hb5.size) VB);have hmr:=Vb;refine Zc (i:=7) (by kernel_rfl) rfl ?_;intro K hK;rw [if_pos (by rfl)];go_simp;refine ⟨trivial,?_⟩;refine (callsIn_wide.2 HV.out).mono ?_;rintro e w6 ⟨rfl,Xe,OX⟩;obtain ⟨a5,b5,p5⟩:=hS5;have Wy:Z6 w6 ab 311 #[.int .u64 (ZU s0),.int .u64 (ZU s1)]/\Z6 w6 wr.heap.size 38 #[.bool false,.int .i64 v,.slice A ps.length c]/\Z6 w6 pb 41 #[.int .i64 p.1,.int .i64 p.2]:=⟨a5.kept Xe (.inl Dy.out),b5.kept Xe (.inr rfl),p5.kept Xe (.inl FX.out)⟩;refine hK.out _ _ (fun _=>Wy) ?_;clear hK K hmr HV;have TV:=hide (YZ L (by have:=Dx.out;omega) (by have:=Dx.out;omega) w6)
          (try simp only [Act.put,Z4])
          refine Zc (i:=8) (by kernel_rfl) rfl ?_;intro K hK;rw [if_pos (by rfl)];go_simp;refine ⟨trivial,?_⟩;refine (callsIn_wide.2 TV.out).mono ?_;rintro e w7 ⟨rfl,rfl⟩;refine hK.out _ _ (fun _=>Wy) ?_;clear hK K TV;have hnt:=VU (decide (L<0));have M6:bits BinOp.xor IntKind.u64 (if IntKind.u64.signed=true then -1 else IntKind.u64.max) (ZU (decide (L<0)))=ZU (!decide (L<0)):=hnt;have hor:=Wq s0 (!decide (L<0))
          (try simp only [Act.put,Z4])
          refine' ZW (i:=9) rfl ?Bu Wy ?wX
          case Bu =>
           intro w' hSw;go_simp;rfl
          simp only [Act.put,Z4];refine' ZW (i:=10) rfl ?Ep Wy ?yC
          case Ep =>
           intro w' hSw;go_simp;rfl
          simp only [Act.put,Z4];refine' ZW (i:=11) rfl ?Eu Wy ?yG
          case Eu =>
           intro w' hSw;go_simp;rfl
          simp only [Act.put,Z4];obtain ⟨a6,b6,p6⟩:=Wy;have c7:w6.cell? ⟨ab,0,none⟩=some (.int .u64 (ZU s0)):=a6.q0 rfl;have f7:=a6.frozen 0;refine Zc (i:=12) (by kernel_rfl) rfl ?_;intro K hK;rw [if_pos (by rfl)];go_simp;refine hK.out _ _ (fun h=>absurd rfl h) ?_;clear hK K;refine Ye (by kernel_rfl) ?_ _;have a7:Z6 (w6.setCell ⟨ab,0,none⟩ (.int .u64 (ZU (s0 || !decide (L<0))))) ab 311 #[.int .u64 (ZU (s0 || !decide (L<0))),.int .u64 (ZU s1)]:=a6.set 0 (.int .u64 (ZU (s0 || !decide (L<0))));have p7:=p6.far (p:=⟨ab,0,none⟩) (by dsimp only;omega) (.int .u64 (ZU (s0 || !decide (L<0))));have t7:=(OX.mono (R:=More P w W2) fun j h=>.inl h).set (b:=ab) Dy.out 0 (.int .u64 (ZU (s0 || !decide (L<0))));have k7:Z9 P W2 (w6.setCell ⟨ab,0,none⟩ (.int .u64 (ZU (s0 || !decide (L<0))))):=(Wz.trans ((hk5.trans Xe).mono UC.out)).mono' (fun j h=>h) pQ.out 0 (.int .u64 (ZU (s0 || !decide (L<0))));have Xt:=hide (YG.out _ _ rfl _ a7 p7 k7 t7);clear a7 p7 t7 k7 a6 b6 p6 c7 f7 hS a5 b5 p5 hk5 VB hb5 Xe OX Wz Qc A4 B4 P4 YG HLOC hnt M6 hor;gi_wp2;go_roundw
          case rel=>exact ⟨k+1,_,_,by omega,by go_num,Xt.out⟩
          case measure=>simp [intOf];omega
        | true =>
          have z0:w4.cell? ⟨wr.heap.size,0,none⟩=some (.bool true):=B4.q0 rfl;gi_wp2_with fail;clear z0;refine YO 12 (S:=fun w'=>Z6 w' ab 311 #[.int .u64 (ZU s0),.int .u64 (ZU s1)]/\Z6 w' wr.heap.size 38 #[.bool true,.int .i64 v,.slice A ps.length c]/\Z6 w' pb 41 #[.int .i64 p.1,.int .i64 p.2]) YD ?_;have hS:Z6 w4.drew ab 311 #[.int .u64 (ZU s0),.int .u64 (ZU s1)]/\Z6 w4.drew wr.heap.size 38 #[.bool true,.int .i64 v,.slice A ps.length c]/\Z6 w4.drew pb 41 #[.int .i64 p.1,.int .i64 p.2]:=⟨A4.drew,B4.drew,P4.drew⟩;refine' ZW (i:=0) rfl ?Ak hS ?vN
          case Ak =>
           intro w' hSw;go_simp;rfl
          simp only [Act.put,getElem_toArray,getElem_cons_zero,setIfInBounds_toArray,set_cons_zero,set_cons_succ];refine' ZW (i:=1) rfl ?Av hS ?vX
          case Av =>
           intro w' hSw;go_simp;rfl
          simp only [Act.put,Z4];refine' ZW (i:=2) rfl ?AB hS ?wu
          case AB =>
           intro w' hSw;obtain ⟨r1,r2,r3⟩:=hSw;have z1:w'.cell? ⟨ab,1,none⟩=some (.int .u64 (ZU s1)):=r1.q1 rfl;go_simp;rfl
          simp only [Act.put,Z4];refine' ZW (i:=3) rfl ?AQ hS ?wE
          case AQ =>
           intro w' hSw;obtain ⟨r1,r2,r3⟩:=hSw;have z1:=r2.q0 rfl;have z2:=r2.q1 rfl;have z3:=r2.q2 rfl;go_simp;rfl
          simp only [Act.put,Z4];refine' ZW (i:=5) rfl ?Bb hS ?wL
          case Bb =>
           intro w' hSw;go_simp;rfl
          simp only [Act.put,Z4];refine' ZW (i:=6) rfl ?Bh hS ?wQ
          case Bh =>
           intro w' hSw;obtain ⟨r1,r2,r3⟩:=hSw;have z1:=r3.q0 rfl;have z2:=r3.q1 rfl;go_simp;rfl
          simp only [Act.put,Z4];refine Zc (i:=4) (by kernel_rfl) rfl ?_;intro K hK;rw [if_pos (by rfl)];go_simp;refine ⟨trivial,?_⟩;refine (callsIn_wide.2 (Yn _ v hvb A ps.length c _)).mono ?_;rintro e w5 ⟨rfl,hb5⟩;have hS5:Z6 w5 ab 311 #[.int .u64 (ZU s0),.int .u64 (ZU s1)]/\Z6 w5 wr.heap.size 38 #[.bool true,.int .i64 v,.slice A ps.length c]/\Z6 w5 pb 41 #[.int .i64 p.1,.int .i64 p.2]:=⟨A4.drew.step hb5,B4.drew.step hb5,P4.drew.step hb5⟩;refine hK.out _ _ (fun _=>hS5) ?_;clear hK K;have hk5:Z9 (Also (More P w W2) wr.heap.size) w4 w5:=(Z9.drew _ _).trans (Z9.of_below hb5 Dz.out);have VB:=Qc.drew.step hb5
          (try simp only [Act.put,Z4])
          have HV:=hide (HLOC.out w5 (Wz.trans (hk5.mono UC.out)) (fun j hj=>Nat.lt_of_lt_of_le (Dz.out j hj) hb5.size) VB);have hmr:=Vb;refine Zc (i:=7) (by kernel_rfl) rfl ?_;intro K hK;rw [if_pos (by rfl)];go_simp;refine ⟨trivial,?_⟩;refine (callsIn_wide.2 HV.out).mono ?_;rintro e w6 ⟨rfl,Xe,OX⟩;obtain ⟨a5,b5,p5⟩:=hS5;have Wy:Z6 w6 ab 311 #[.int .u64 (ZU s0),.int .u64 (ZU s1)]/\Z6 w6 wr.heap.size 38 #[.bool true,.int .i64 v,.slice A ps.length c]/\Z6 w6 pb 41 #[.int .i64 p.1,.int .i64 p.2]:=⟨a5.kept Xe (.inl Dy.out),b5.kept Xe (.inr rfl),p5.kept Xe (.inl FX.out)⟩;refine hK.out _ _ (fun _=>Wy) ?_;clear hK K hmr HV;have TV:=hide (YZ L (by have:=Dx.out;omega) (by have:=Dx.out;omega) w6)
          (try simp only [Act.put,Z4])
          refine Zc (i:=8) (by kernel_rfl) rfl ?_;intro K hK;rw [if_pos (by rfl)];go_simp;refine ⟨trivial,?_⟩;refine (callsIn_wide.2 TV.out).mono ?_;rintro e w7 ⟨rfl,rfl⟩;refine hK.out _ _ (fun _=>Wy) ?_;clear hK K TV;have hnt:=VU (decide (L<0));have M6:bits BinOp.xor IntKind.u64 (if IntKind.u64.signed=true then -1 else IntKind.u64.max) (ZU (decide (L<0)))=ZU (!decide (L<0)):=hnt;have hor:=Wq s1 (!decide (L<0))
          (try simp only [Act.put,Z4])
          refine' ZW (i:=9) rfl ?Bw Wy ?wY
          case Bw =>
           intro w' hSw;go_simp;rfl
          simp only [Act.put,Z4];refine' ZW (i:=10) rfl ?Er Wy ?yD
          case Er =>
           intro w' hSw;go_simp;rfl
          simp only [Act.put,Z4];refine' ZW (i:=11) rfl ?Ew Wy ?yH
          case Ew =>
           intro w' hSw;go_simp;rfl
          simp only [Act.put,Z4];obtain ⟨a6,b6,p6⟩:=Wy;have c7:w6.cell? ⟨ab,1,none⟩=some (.int .u64 (ZU s1)):=a6.q1 rfl;have f7:=a6.frozen 1;refine Zc (i:=12) (by kernel_rfl) rfl ?_;intro K hK;rw [if_pos (by rfl)];go_simp;refine hK.out _ _ (fun h=>absurd rfl h) ?_;clear hK K;refine Ye (by kernel_rfl) ?_ _;have a7:Z6 (w6.setCell ⟨ab,1,none⟩ (.int .u64 (ZU (s1 || !decide (L<0))))) ab 311 #[.int .u64 (ZU s0),.int .u64 (ZU (s1 || !decide (L<0)))]:=a6.set 1 (.int .u64 (ZU (s1 || !decide (L<0))));have p7:=p6.far (p:=⟨ab,1,none⟩) (by dsimp only;omega) (.int .u64 (ZU (s1 || !decide (L<0))));have t7:=(OX.mono (R:=More P w W2) fun j h=>.inl h).set (b:=ab) Dy.out 1 (.int .u64 (ZU (s1 || !decide (L<0))));have k7:Z9 P W2 (w6.setCell ⟨ab,1,none⟩ (.int .u64 (ZU (s1 || !decide (L<0))))):=(Wz.trans ((hk5.trans Xe).mono UC.out)).mono' (fun j h=>h) pQ.out 1 (.int .u64 (ZU (s1 || !decide (L<0))));have Xt:=hide (YG.out _ _ rfl _ a7 p7 k7 t7);clear a7 p7 t7 k7 a6 b6 p6 c7 f7 hS a5 b5 p5 hk5 VB hb5 Xe OX Wz Qc A4 B4 P4 YG HLOC hnt M6 hor;gi_wp2;go_roundw
          case rel=>exact ⟨k+1,_,_,by omega,by go_num,Xt.out⟩
          case measure=>simp [intOf];omega
    · obtain rfl:k=gs.length:=(by omega);rw [List.take_length] at htp hst;have hand:=Nj s0 s1;have z0:wr.cell? ⟨ab,0,none⟩=some (.int .u64 (ZU s0)):=Ar.q0 rfl;have z1:wr.cell? ⟨ab,1,none⟩=some (.int .u64 (ZU s1)):=Ar.q1 rfl;have hfin:(s0 && !s1)=((Vr p gs).1 && !(Vr p gs).2):=(by rw [hst.out]);have HF:=hide hfin;clear hfin;gi_wp2;go_ret;refine ⟨?_,Ui.out.trans hkp,htp.mono fun j h=>.inl h⟩;rw [<- HF.out];rfl
 · have e1:YA gs p=false:=(by unfold YA;rw [decide_eq_false hf];rfl);have e2:Zl gs=[]:=(by unfold Zl;rw [if_neg hf]);rw [e1,e2,List.append_nil];have HP:=hide hP;have HT:=hide ht;obtain ⟨z,hz⟩:=eE (Zt (gs.map (·.1)));rw [<- hz] at HC hf;clear e1 e2 hP hg0 hs hgs hw ht hz hpb P0;go_enter func197,ntmps197;go_wp2_with fail;rw [<- hw0];have HW0:=hide hw0;clear hw0;refine HC.out.mono ?_;rintro e w1 ⟨rfl,hb1⟩;go_wp2;go_ret;exact ⟨rfl,Z9.of_below (Z8 hb0 hb1) HP.out,HT.out.step (Z8 hb0 hb1)⟩
end
section
open Go.RowKit Go.Shelf
theorem MC(b:Bool)(x o:Int)(h0:0<=x)(h1:x<=1000)(h2:0<=o)(h3:o<=1000)(w:World):Calls prog 193 #[.int .u64 (ZU b),.int .i64 x,.int .u64 o] w fun e w'=>e=.returned (.int .i64 (bif b then x else o))/\w=w':=by
 have hx:IntKind.u64.wrap x=x:=by rw [IntKind.wrap_u64];omega
 have hv:IntKind.i64.wrap (bif b then x else o)=(bif b then x else o):=by rw [IntKind.wrap_i64];cases b <;> simp <;> omega
 have HS:=hide (Tt b x o h0 (by omega) h2 (by omega) w);obtain ⟨r,hr⟩:=eE ((bif b then x else o));rw [<- hr] at hv HS;rw [<- hr];clear hr;go_enter func193,ntmps193;go_wp2_with fail;refine HS.out.mono ?_;rintro e w' ⟨rfl,rfl⟩;go_wp2;go_ret;exact ⟨rfl,rfl⟩
theorem Lr(b:Bool)(w:World):Calls prog 196 #[.int .u64 (ZU b)] w fun e w'=>e=.returned (.int .u64 (bif b then 1 else 0))/\w=w':=by
 have h:bits BinOp.and IntKind.u64 (ZU b) 1=(bif b then 1 else 0):=by cases b <;> decide
 go_enter func196,ntmps196;go_wp2;go_ret;exact ⟨rfl,rfl⟩
def Xv(gs:List Gr)(p:Pt):Int:=bif Zx gs then (bif YA gs p then 1 else 0) else 2
def D9(gs:List Gr):List Ev:=ZK gs++Zl gs
theorem YQ(gs:List Gr):(ZK gs).length<=262208:=by
 unfold ZK;split
 · rename_i h
   have h1:=Wh 0 gs;have h2:gs.length<=64:=by
    unfold Zt at h;split at h
    · omega
    · rename_i h2;rw [List.length_map] at h2;omega
   omega
 · simp
section
variable (P:Nat->Prop)(t:Option (Nat × Nat))(es:List Ev)(p:Pt)(hp:PJ p)(w:World)(hP:∀ k,P k->k<w.heap.size)(hg0:P 8)(hw:MW w)(ht:Tp w P t es)(hl:es.length<=600000)
include hp hP hg0 hw ht hl
theorem MK(gs:List Gr)(GA:Option Addr)(gc:Nat)(hs:Wx w P GA (rgCells (gs.map (·.1))))(hgs:Jt w P gs):
 Calls prog 143 #[.pointer (ZT t),.slice GA gs.length gc,.agg #[.int .i64 p.1,.int .i64 p.2]] w fun e w'=>e=.returned (.int .i64 (Xv gs p))/\Z9 P w w'/\Tp w' P t (es++D9 gs):=by
 obtain ⟨w0,hw0⟩:=eE (w.alloc (.cells #[.int .i64 p.1,.int .i64 p.2] 41));have hb0:=bE hw0;have B0:Z6 w0 w.heap.size 41 #[.int .i64 p.1,.int .i64 p.2]:=by rw [hw0];exact Z6.new _ _ _
 have hm:=XZ hP hb0;have hk0:Z9 P w w0:=Z9.of_below hb0 hP;have HV:=hide (XJ (More P w w0) t es gs GA gc w0 hm (.inl hg0) ((hs.kept hk0).mono fun k h=>.inl h) (fun g hg=>⟨(hgs g hg).1,((hgs g hg).2.1.kept hk0).mono fun k h=>.inl h,(hgs g hg).2.2⟩) (hw.step hb0) (ht.more hb0) hl);have HI:Hid (More P w w0 w.heap.size):=.inr ⟨Nat.le_refl _,B0.lt⟩;have HP:=hide hP;have HG:=hide hg0;have HS:=hide hs;have HW:=hide hw;have JL:=hide hgs;have rM:=hide hp;have HB0:=hide hb0;have HM:=hide hm;clear hP hg0 hs hw hgs hp ht hb0 hm hk0;go_enter func143,ntmps143;go_wp2_with fail;rw [<- hw0];have HW0:=hide hw0;clear hw0;refine HV.out.mono ?_;rintro e w1 ⟨rfl,hk1,ht1⟩;have B1:=B0.kept hk1 HI.out;have z0:=B1.q0 rfl;have z1:=B1.q1 rfl;dsimp at z0 z1;have Kt:Z9 P w w1:=Z9.more HB0.out HP.out hk1;have hle:(es++ZK gs).length<=890000:=by
  have h1:=YQ gs;rw [List.length_append];omega
 have HL:=hide (Yg P t _ gs GA gc p rM.out w1 (fun k hk=>Nat.lt_of_lt_of_le (HP.out k hk) Kt.size) HG.out (HS.out.kept Kt) (JL.out.kept Kt) (HW.out.kept Kt HG.out) (ht1.mono fun k h=>.inl h) hle);have yU:=hide Kt;have HA:Hid (Xv gs p=bif Zx gs then (bif YA gs p then 1 else 0) else 2):=rfl;obtain ⟨mb,hmb⟩:=eE (YA gs p);rw [<- hmb] at HL HA;obtain ⟨bt,hbt⟩:∃ bt:Int,bt=(bif mb then 1 else 0):=⟨_,rfl⟩;have hbb:0<=bt/\bt<=1:=by rw [hbt];cases mb <;> decide
 have JJ:=hide (fun w=>Lr mb w);rw [<- hbt] at JJ HA;have hwr:IntKind.i64.wrap bt=bt:=by rw [IntKind.wrap_i64];omega
 clear hk1 ht1 B1 B0 Kt hle HV hmb hbt;go_wp2_with fail;refine HL.out.mono ?_;rintro e w2 ⟨rfl,hk2,ht2⟩;clear z0 z1;go_wp2_with fail;refine (JJ.out w2).mono ?_;rintro e w2' ⟨rfl,rfl⟩;have dR:=hide (fun w=>MC (Zx gs) bt 2 (by omega) (by omega) (by omega) (by omega) w);go_wp2_with fail;refine (dR.out w2).mono ?_;rintro e w3 ⟨rfl,rfl⟩;go_wp2;go_ret;refine ⟨Xb HA.out.symm,yU.out.trans hk2,?_⟩;rw [List.append_assoc] at ht2;exact ht2
end
end
section
open Go.RowKit Go.Shelf Go.Maps
def jo(v:Value):Option (DataW Unit × List MemPlace) :=
 match v with
 | .agg cs=>match cs.toList with
   | [.func (.func n) f c]=>if f.size=0/\c.size=0 then some (.lit (.int .i64 n),[]) else some (.lit (.int .i64 0),[])
   | _=>some (.lit (.int .i64 0),[])
 | _=>some (.lit (.int .i64 0),[])
def oZ:DataW Unit:=(((DataW.map []).put (.int .i64 1) (.lit (.int .i64 330))).put (.int .i64 2) (.lit (.int .i64 331))).put (.int .i64 3) (.lit (.int .i64 332)) |>.put (.int .i64 4) (.lit (.int .i64 333))
def nH(w:World)(b:Nat):Prop:=w.ownsMap prog 3 jo b 4 oZ
theorem nH.step{w w':World}{b:Nat}(h:nH w b)(hb:Below w.heap.size w w'):nH w' b:=World.ownsMap.kept h (below_grown hb) (by simp)
end
section
open Go.RowKit Go.Shelf
def xW(w:World)(b off:Nat)(ps:List Pt)(j:Nat):Prop:=w.cell? ⟨b,off+j*2,none⟩=some (.int .i64 (Z5 ps j).1)/\w.cell? ⟨b,off+j*2+1,none⟩=some (.int .i64 (Z5 ps j).2)
theorem xW.step{w w':World}{b off:Nat}{ps:List Pt}{j:Nat}(h:xW w b off ps j)(hb:Below w.heap.size w w'):xW w' b off ps j :=
 ⟨(hb.cell (p:=⟨b,off+j*2,none⟩) (ZG h.1)).trans h.1,(hb.cell (p:=⟨b,off+j*2+1,none⟩) (ZG h.2)).trans h.2⟩
section
variable (P:Nat->Prop)(t:Option (Nat × Nat))(es:List Ev)(op vs XQ:Int)(HA:Option Addr)(hn hc:Nat)(gs:List Gr)(GA:Option Addr)(gc:Nat)(ps:List Pt)(PA:Option Addr)(pc:Nat)(QA:Option Addr)(qn qc:Nat)(w:World)
variable (hP:∀ k,P k->k<w.heap.size)(hg0:P 8)(hw:MW w)(ht:Tp w P t es)(hl:es.length<=600000)(hps:Lj ps)(hs:Wx w P PA (Y7 ps))
include hP hg0 hw ht hl hps hs
end
theorem xW.kept{w w':World}{P:Nat->Prop}{b off:Nat}{ps:List Pt}{j:Nat}(h:xW w b off ps j)(hk:Z9 P w w')(hb:P b):xW w' b off ps j:=⟨(hk.cell hb _).trans h.1,(hk.cell hb _).trans h.2⟩
section
variable (P:Nat->Prop)(t:Option (Nat × Nat))(es:List Ev)(op vs XQ:Int)(HA:Option Addr)(hn hc:Nat)(gs:List Gr)(GA:Option Addr)(gc:Nat)(ps:List Pt)(PA:Option Addr)(pc:Nat)(QA:Option Addr)(qn qc:Nat)(w:World)
variable (hP:∀ k,P k->k<w.heap.size)(hg0:P 8)(hw:MW w)(ht:Tp w P t es)(hl:es.length<=600000)(hps:Lj ps)(hs:Wx w P PA (Y7 ps))
include hP hg0 hw ht hl hps hs
end
end
end Go.Proofs.YthnenedoblncjaaGreatDoor