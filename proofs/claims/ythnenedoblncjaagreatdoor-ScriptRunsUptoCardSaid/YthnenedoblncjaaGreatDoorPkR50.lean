/- ScrLaw LawScrRuns -/
import Derived.Laws.BytesArg
import Derived.Test.YthnenedoblncjaaGreatDoorPkR31
import Derived.Test.YthnenedoblncjaaGreatDoorPkR48
import Derived.Test.YthnenedoblncjaaGreatDoorPkR49
set_option maxRecDepth 1000000
set_option maxHeartbeats 8000000
namespace Go.Proofs.YthnenedoblncjaaGreatDoor
open Go.Proofs.Tryz
section
open Go.RowKit Go.Shelf
theorem NH:∀ (a cur s:List UInt8),YT cur (a++10::s)=YT cur (a++[10])++Yb s
 | [],cur,s=>by
   rw [List.nil_append,List.nil_append,YT,YT,if_pos rfl,if_pos rfl];rfl
 | c::a,cur,s=>by
   rw [List.cons_append,List.cons_append,YT,YT]
   by_cases hc:c=10
   · rw [if_pos hc,if_pos hc,NH a [] s,List.cons_append]
   · rw [if_neg hc,if_neg hc,NH a (cur++[c]) s]
theorem zzp{F S:List UInt8}(h:F=[]\/F.getLast?=some 10):Yb (F++S)=Yb F++Yb S:=by
 rcases h with rfl|h
 · rfl
 · rcases List.eq_nil_or_concat F with rfl|⟨a,c,rfl⟩
   · cases h
   · rw [List.concat_eq_append,List.getLast?_append] at h;simp at h;subst h;rw [List.concat_eq_append,List.append_assoc];exact NH a [] S
theorem Ah(ans:List (List UInt8)->List UInt8->List UInt8):∀ (r s q:List (List UInt8)),Xf ans s (r++q)=Xf ans s r++Xf ans (s++r) q
 | [],s,q=>by rw [List.nil_append,List.append_nil];rfl
 | x::r,s,q=>by rw [List.cons_append,Xf,Xf,Ah ans r (s++[x]) q,List.cons_append,List.append_assoc];rfl
theorem DN(xs ys:List Value)(n1 n2:Nat)(v1 v2:Value)(B B2:Nat)(w2:World)(h1:w2.ownsRow B 9 1 v1 n1 xs)(h2:w2.ownsRow B2 9 1 v2 n2 ys)(ho:∀ u∈ys,u.oneCell'=true)(l1:n1<=2000000)(l2:n2<=2000000)(hB:B<=w2.heap.size):
 ∃ v3 w3,(Builtin.append_ #[28,28] 28 #[v1,v2]).run prog w2=.ok v3 w3/\w3.ownsRow B 9 1 v3 (n1+n2) (xs++ys)/\w2.grownBy w3 v1.ownBlock:=by
 obtain ⟨i0,hi,hz0,hz1,hz2⟩:=info_parts RJ;rcases h2.2 with ⟨rfl,h0⟩|⟨g2,cap2,cur,rfl,hb2,hh2,hc2,hm2,_⟩
 · have he:ys=[]:=List.eq_nil_of_length_eq_zero (by rw [h2.1,h0]);subst he;subst h0;rw [List.append_nil,Nat.add_zero];exact ⟨v1,w2,run_append_owned_none (P:=prog) w2 B 28 28 9 i0 1 underlying28 hi _ _ _ h1,h1,⟨rfl,rfl,rfl,Nat.le_refl _,fun _ _ _=>rfl⟩⟩
 · have hcells:∀ j u,ys[j]?=some u->w2.cell? ((⟨g2,0,none⟩:Addr).add j)=some u:=fun j u hu=>by
    have h:=Sl.Zv h2;rcases h with h|⟨b',off',hA,_,hc⟩
    · rw [h] at hu;simp at hu
    · cases hA;have h2:=hc j u hu;rw [Nat.zero_add] at h2;rw [Eo];exact h2
   obtain ⟨v3,w3,hrun,Zt,Zx,_⟩:=run_append_own (P:=prog) w2 B 28 28 9 i0 (.string ⟨#[]⟩) 1 16 underlying28 hi hz0 hz1 hz2 rfl (by decide) v1 n1 xs h1 ⟨g2,0,none⟩ n2 cap2 ys h2.1 hcells ho (by unfold maxLen;omega) (by omega) hB;exact ⟨v3,w3,hrun,Zt,Zx⟩
theorem rW(l:List (List UInt8)):∀ u∈ZF l,u.oneCell'=true:=by
 intro u hu;obtain ⟨x,_,rfl⟩:=List.mem_map.1 hu;rfl
theorem rV(a b:List (List UInt8)):ZF (a++b)=ZF a++ZF b:=by simp [ZF]
end
section
open Go.RowKit Go.Shelf
theorem Te:∀ (l cur:List UInt8),(l=[]->cur≠[])->l.getLast?≠some 10->YT cur (l++[10])=YT cur l
 | [],cur,h,_=>by
   show YT cur (10::[])=YT cur [];unfold YT;rw [if_pos rfl,if_neg (h rfl)];rfl
 | c::r,cur,_,hl=>by
   rw [List.cons_append,YT,YT]
   have hr:r≠[]->r.getLast?≠some 10:=fun hn=>by
    cases r with
    | nil=>exact absurd rfl hn
    | cons a r=>rwa [List.getLast?_cons_cons] at hl
   by_cases hc:c=10
   · rw [if_pos hc,if_pos hc]
     by_cases hn:r=[]
     · subst hn;subst hc;exact absurd rfl hl
     · rw [Te r [] (fun h=>absurd h hn) (hr hn)]
   · rw [if_neg hc,if_neg hc]
     by_cases hn:r=[]
     · subst hn;exact Te [] (cur++[c]) (fun _=>by simp) (by simp)
     · exact Te r (cur++[c]) (fun h=>absurd h hn) (hr hn)
theorem zvp(l:List UInt8):Lib.hasSuffix l [10]=decide (l.getLast?=some 10):=by
 rcases List.eq_nil_or_concat l with rfl|⟨a,c,rfl⟩
 · rfl
 · by_cases hc:c=10
   · subst hc;simp [Lib.hasSuffix]
   · simp [Lib.hasSuffix,List.isSuffixOf,List.isPrefixOf,Ne.symm hc,hc]
section
variable (s1 s2:ByteArray)(h1:s1.size<=1048576)(h2:s2.size<=1048576)(w:World){B:Nat}(he:Env B w)
include h1 h2 he
theorem yh:Calls prog 6 #[.string s1,.string s2] w fun e w'=>e=.returned (.bool true)/\Below w.heap.size w w':=by
 have sM:=hide (fun (X:World) (hb:Below w.heap.size w X)=>tF X (he.new hb));obtain ⟨t1,ht1⟩:∃ t,t=s1.data.toList:=⟨_,rfl⟩;obtain ⟨t2,ht2⟩:∃ t,t=s2.data.toList:=⟨_,rfl⟩;have e1:strOf t1=s1:=by rw [ht1];exact Tz s1
 have e2:strOf t2=s2:=by rw [ht2];exact Tz s2
 have l1:t1.length<=1048576:=by rw [<- ZK,e1];exact h1
 have l2:t2.length<=1048576:=by rw [<- ZK,e2];exact h2
 have SK1:=hide (FT t1 (by omega) w);have eU:=hide (fun X=>FT t2 (by omega) X);rw [e1] at SK1;rw [e2] at eU;have Qs:Hid (Env w.heap.size w):=hide ⟨Nat.le_refl _,fun w' hb=>he.2 w' (Vu hb he.1)⟩;have RO:=hide e1;have HE2:=hide e2;have HT1:=hide ht1;have hz1:s1.size=t1.length:=by rw [<- e1,ZK]
 have hz2:s2.size=t2.length:=by rw [<- e2,ZK]
 have HZ1:=hide hz1;have HZ2:=hide hz2;clear h1 h2 he l1 l2 e1 e2 ht1 ht2 hz1 hz2;go_enter func6,ntmps6;go_wp2_with fail;refine SK1.out.mono ?_;rintro e w1 ⟨z1,rfl,hz1,hb1⟩;have HB1:=hide hb1;cases z1 with
 | true =>
   clear hz1 hb1 SK1 eU;go_wp2_with fail;refine (sM.out w1 HB1.out).mono ?_;rintro e w3 ⟨rfl,hb3⟩;go_wp2;go_ret;exact ⟨rfl,Z8 HB1.out hb3⟩
 | false =>
   have dW:=hide (hz1 rfl);clear hz1 hb1 SK1;go_wp2_with fail;refine (eU.out w1).mono ?_;rintro e w2 ⟨z2,rfl,hz2,hb2⟩;have HB2:=hide (Z8 HB1.out hb2);cases z2 with
   | true =>
     clear hz2 hb2 eU;go_wp2_with fail;refine (sM.out w2 HB2.out).mono ?_;rintro e w3 ⟨rfl,hb3⟩;go_wp2;go_ret;exact ⟨rfl,Z8 HB2.out hb3⟩
   | false =>
     have HN2:=hide (hz2 rfl);clear hz2 hb2 eU;have hcase:t1=[]\/(t1≠[]/\t1.getLast?=some 10)\/(t1≠[]/\t1.getLast?≠some 10):=by
      by_cases h:t1=[]
      · exact .inl h
      · by_cases h2:t1.getLast?=some 10
        · exact .inr (.inl ⟨h,h2⟩)
        · exact .inr (.inr ⟨h,h2⟩)
     -- what the rest is told: the first part as it is run
     have SE:Hid (∀ (V:ByteArray) (F:List UInt8),V=strOf F->(F=[]\/F.getLast?=some 10)->Yb F=Yb t1->F.length<=6001 ->
      (∀ sb W R X,Y6 w.heap.size UN ([],[]) sb W R [] X->Calls prog 17 #[.pointer (some ⟨sb,0,none⟩),.string (V++s2)] X fun e Y=>∃ W' R' v,e=.returned v/\Y6 w.heap.size UN ([],[]) sb W' R' (Yb t1++Yb t2) Y/\(∀ k,W' k\/R' k->v.ownBlock≠some k)/\(∀ k,W' k->W k\/X.heap.size<=k)/\(∀ k,R' k->R k\/X.heap.size<=k)/\Y.ownsRow X.heap.size 9 1 v (Yb t1++Yb t2).length (ZF (Xf Vi [] (Yb t1++Yb t2)))/\Z9 (fun k=>k<X.heap.size/\¬ W k) X Y) /\
      (∀ sb W R X,Y6 w.heap.size UN ([],[]) sb W R [] X->Calls prog 17 #[.pointer (some ⟨sb,0,none⟩),.string V] X fun e Y=>∃ W' R' v,e=.returned v/\Y6 w.heap.size UN ([],[]) sb W' R' (Yb t1) Y/\(∀ k,W' k\/R' k->v.ownBlock≠some k)/\(∀ k,W' k->W k\/X.heap.size<=k)/\(∀ k,R' k->R k\/X.heap.size<=k)/\Y.ownsRow X.heap.size 9 1 v (Yb t1).length (ZF (Xf Vi [] (Yb t1)))/\Z9 (fun k=>k<X.heap.size/\¬ W k) X Y) /\
      (∀ X,Calls prog 14 #[.string (V++s2)] X fun e w'=>∃ v,e=.returned v/\w'.ownsRow X.heap.size 9 1 v (Yb t1++Yb t2).length (ZF (Yb t1++Yb t2))/\Below X.heap.size X w')):=by
      refine hide fun V F hV hF hL hl=>?_;have hn1:=dW.out;have hn2:=HN2.out;have zqd:V++s2=strOf (F++t2):=(by rw [hV,<- HE2.out,NM]);have hLA:Yb (F++t2)=Yb t1++Yb t2:=(by rw [zzp hF,hL]);refine ⟨fun sb W R X hi=>?_,fun sb W R X hi=>?_,fun X=>?_⟩
      · refine (Tw w.heap.size sb (V++s2) (F++t2) zqd (by rw [List.length_append];omega) (fun l hl'=>?_) [] (by rw [hLA,List.length_append,List.length_nil];omega) W R X hi).mono ?_
        · rw [hLA] at hl';rcases List.mem_append.1 hl' with h|h
          · exact Nat.le_trans (WG h) hn1.1
          · exact Nat.le_trans (WG h) hn2.1
        · rintro e Y ⟨W',R',v,h0,h⟩;rw [hLA,List.nil_append] at h;exact ⟨W',R',v,h0,h⟩
      · refine (Tw w.heap.size sb V F hV (by omega) (fun l hl'=>?_) [] (by rw [hL,List.length_nil];omega) W R X hi).mono ?_
        · rw [hL] at hl';exact Nat.le_trans (WG hl') hn1.1
        · rintro e Y ⟨W',R',v,h0,h⟩;rw [hL,List.nil_append] at h;exact ⟨W',R',v,h0,h⟩
      · have h:=KU (F++t2) (by rw [List.length_append];omega) X;rw [<- zqd,hLA] at h;exact h
     have zfh:Hid (∀ sb W R X,Y6 w.heap.size UN ([],[]) sb W R (Yb t1) X->Calls prog 17 #[.pointer (some ⟨sb,0,none⟩),.string s2] X (Pv (Yb t1) t2 Vi (Y6 w.heap.size UN ([],[]) sb) W R X)):=hide fun sb W R X hi=>by
      have hn1:=dW.out;have hn2:=HN2.out;exact Tw w.heap.size sb s2 t2 HE2.out.symm (by omega) (fun l hl'=>Nat.le_trans (WG hl') hn2.1) (Yb t1) (by omega) W R X hi
     have hn1:=dW.out;have hn2:=HN2.out
     have HSU:Hid (∀ X,Calls prog 28 #[.string s1,.string { data:=#[10] }] X fun e w'=>e=.returned (.bool (decide (t1.getLast?=some 10)))/\w'=X):=hide fun X=>by
      refine (Any.strings_HasSuffix Tryz.lays100 s1 ⟨#[10]⟩ X (by rw [HZ1.out];omega)).mono ?_;rintro e w' ⟨rfl,rfl⟩;refine ⟨?_,rfl⟩;rw [<- zvp,HT1.out]
     have hsize:∀ a:Nat,a<=7000->¬ 9223372036854775807<a+s2.size:=fun a ha=>by rw [HZ2.out];omega
     have dX:Hid ((Yb t1++Yb t2).length<=60/\∀ x∈Yb t1++Yb t2,x.length<=6000):=hide ⟨by rw [List.length_append];omega,fun x hx=>by
      rcases List.mem_append.1 hx with h|h
      · exact Nat.le_trans (WG h) hn1.1
      · exact Nat.le_trans (WG h) hn2.1⟩
     have nD:Hid (Xf Vi [] (Yb t1)++Xf Vi (Yb t1) (Yb t2)=Xf Vi [] (Yb t1++Yb t2)):=hide (by rw [Ah];rfl);obtain ⟨L,hL⟩:=eE (Yb t1++Yb t2);obtain ⟨n,hn⟩:=eE L.length;have sO:Hid ((Yb t1).length+(Yb t2).length=n):=hide (by rw [hn,hL,List.length_append]);rw [<- hL] at SE dX nD;rw [<- hn] at SE dX;have dV:=hide hn;clear hL hn;have pG:s1.toList.isEmpty=t1.isEmpty:=(by rw [<- RO.out,YL]);rcases hcase with hc|⟨hc,hl⟩|⟨hc,hl⟩
     case' inl =>
      have hem:s1.toList.isEmpty=true:=(by rw [pG,hc];rfl);obtain ⟨R1,R2,R3⟩:=SE.out s1 t1 RO.out.symm (.inl hc) rfl (by omega);have HR1:=hide R1;have HR2:=hide R2;have HR3:=hide R3;have hsz:=hsize s1.size (by rw [HZ1.out];omega);clear hc R1 R2 R3 SE HSU hn1 hn2 hsize pG;go_wp2_with fail
     case' inr.inl =>
      have hem:s1.toList.isEmpty=false:=by
       rw [pG];cases t1 with
       | nil=>exact absurd rfl hc
       | cons=>rfl
      rw [decide_eq_true hl] at HSU;obtain ⟨R1,R2,R3⟩:=SE.out s1 t1 RO.out.symm (.inr hl) rfl (by omega);have HR1:=hide R1;have HR2:=hide R2;have HR3:=hide R3;have hsz:=hsize s1.size (by rw [HZ1.out];omega);clear hc hl R1 R2 R3 SE hn1 hn2 hsize pG;go_wp2_with fail;refine (HSU.out w2).mono ?_;rintro e w' ⟨rfl,hw'⟩;rw [hw'];clear hw' HSU;go_wp2_with fail
     case' inr.inr =>
      have hem:s1.toList.isEmpty=false:=by
       rw [pG];cases t1 with
       | nil=>exact absurd rfl hc
       | cons=>rfl
      rw [decide_eq_false hl] at HSU;obtain ⟨F1,hF1⟩:=eE (s1++({ data:=#[10] }:ByteArray));have hFe:F1=strOf (t1++[10]):=(by rw [hF1,<- RO.out];exact NM t1 [10]);obtain ⟨R1,R2,R3⟩:=SE.out F1 (t1++[10]) hFe (.inr (by rw [List.getLast?_append];rfl)) (Te t1 [] (fun h=>absurd h hc) hl) (by rw [List.length_append,List.length_cons,List.length_nil];omega);have HR1:=hide R1;have HR2:=hide R2;have HR3:=hide R3;have hsz0:¬ 9223372036854775807<s1.size+1:=(by rw [HZ1.out];omega);have hsz:=hsize F1.size (by rw [hFe,ZK,List.length_append,List.length_cons,List.length_nil];omega);have zqd:s1++({ data:=#[10] }:ByteArray)=F1:=hF1.symm;clear hc hl R1 R2 R3 SE hn1 hn2 hsize pG hFe hF1;go_wp2_with fail;refine (HSU.out w2).mono ?_;rintro e w' ⟨rfl,hw'⟩;rw [hw'];clear hw' HSU;go_wp2_with fail
     all_goals
      refine (TU w2).mono ?_;rintro e w3 ⟨rfl,hw3⟩;obtain ⟨b1,hb1⟩:∃ z,z=w2.heap.size:=⟨_,rfl⟩;obtain ⟨b2,hb2⟩:∃ z,z=w2.heap.size+1:=⟨_,rfl⟩;obtain ⟨b3,hb3⟩:∃ z,z=w2.heap.size+1+1:=⟨_,rfl⟩;have z3:w3.heap.size=b2:=(by rw [hw3,hb2];simp);obtain ⟨w4,hw4⟩:=eE (w3.alloc (.cells #[.slice none 0 0,.slice none 0 0] 70));obtain ⟨w5,dh⟩:=eE (w4.alloc (.cells #[.slice none 0 0,.slice none 0 0] 70));have z4:w4.heap.size=b3:=(by rw [hw4,hb3];simp [z3,hb2]);have z5:w5.heap.size=b3+1:=(by rw [dh];simp [z4]);have q3:=bE hw3;have q4:=bE hw4;have q5:=bE dh;have B3:=Z8 HB2.out q3;have B4:=Z8 B3 q4;have J1:=QL (Qs.out.new HB2.out) UN;have J2:=QL (Qs.out.new B3) UN;have J3:=QL (Qs.out.new B4) UN;rw [<- hw3,<- hb1] at J1;rw [<- hw4,z3] at J2;rw [<- dh,z4] at J3;have HJ1:=hide (YR (YR J1 q4) q5);have HJ2:=hide (YR J2 q5);have HJ3:=hide J3;have nG:=hide (Z8 B4 q5);have HZ:Hid (w.heap.size<=b1/\b2=b1+1/\b3=b1+2/\w5.heap.size=b1+3):=hide (by have:=HB2.out.size;omega);have N2:=hide (TU w3);have N3:=hide (TU w4);rw [z3,<- hw4] at N2;rw [z4,<- dh] at N3;rw [<- hb1];clear z3 z4 z5 q3 q4 q5 B3 B4 J1 J2 J3 hw3 hw4 dh hb1 hb2 hb3;go_wp2_with fail;refine N2.out.mono ?_;rintro e x4 ⟨rfl,hx4⟩;rw [hx4];clear hx4 N2;go_wp2_with fail;refine N3.out.mono ?_;rintro e x5 ⟨rfl,hx5⟩;rw [hx5];clear hx5 N3;have S1:=hide (HR1.out b1 _ _ w5 HJ1.out);clear HR1 HJ1;go_wp2_with fail;refine S1.out.mono ?_;rintro e w6 ⟨W1,R1,v1,rfl,-,-,-,-,o1,k1⟩;have hz:=HZ.out;have I2:=YS HJ2.out k1 (fun k hk h=>by rcases hk with hk|hk;have hk:k=b2:=hk;have h:k=b1:=h;omega;exact hk) (fun k hk=>by have hk:k=b1:=hk;omega);have I3:=YS HJ3.out k1 (fun k hk h=>by rcases hk with hk|hk;have hk:k=b3:=hk;have h:k=b1:=h;omega;exact hk) (fun k hk=>by have hk:k=b1:=hk;omega);have S2:=hide (HR2.out b2 _ _ w6 I2);have Eh:=hide o1;have HI3:=hide I3;have Po:=hide k1;clear S1 HR2 HJ2 HJ3 o1 k1 I2 I3 hz;go_wp2_with fail;refine S2.out.mono ?_;rintro e w7 ⟨W2,R2,v2,rfl,i2,d2,hW2,hR2,o2,k2⟩;have hz:=HZ.out;have hs6:w5.heap.size<=w6.heap.size:=Po.out.size;have hv1:∀ k,v1.ownBlock=some k->w5.heap.size<=k/\k<w6.heap.size:=fun k e=>⟨ZN Eh.out e,Yk Eh.out e⟩;have o1:=Xu Eh.out k2 (fun k e h=>by have:=hv1 k e;have h:k=b2:=h;omega);have I3:=YS HI3.out k2 (fun k hk h=>by rcases hk with hk|hk;have hk:k=b3:=hk;have h:k=b2:=h;omega;exact hk) (fun k hk=>by have hk:k=b2:=hk;omega);have S3:=hide (zfh.out b2 _ _ w7 i2);have zgh:∀ k,W2 k->k=b2\/w6.heap.size<=k:=hW2;have HV1:=hide hv1;have Eh:=hide o1;have HI3:=hide I3;have HO2:=hide o2;have Ef:=hide k2;have HW2:=hide zgh;have HD2:=hide d2;have mU:=hide hs6;clear S2 zfh i2 d2 hW2 zgh hR2 o1 o2 k2 I3 hz hv1 hs6;go_wp2_with fail;refine S3.out.mono ?_;rintro e w8 ⟨W3,R3,v3,rfl,-,-,-,-,o3,k3⟩;have hz:=HZ.out;have hs7:w6.heap.size<=w7.heap.size:=Ef.out.size;have uD:w7.heap.size<=w8.heap.size:=k3.size;have hs6:=mU.out;have hv2:∀ k,v2.ownBlock=some k->w6.heap.size<=k/\k<w7.heap.size:=fun k e=>⟨ZN HO2.out e,Yk HO2.out e⟩;have o1:=Xu Eh.out k3 (fun k e h=>by have:=HV1.out k e;rcases HW2.out k h with h|h <;> omega);have o2:=Xu HO2.out k3 (fun k e h=>HD2.out k (.inl h) e);have I3:=YS HI3.out k3 (fun k hk h=>by rcases hk with hk|hk;have hk:k=b3:=hk;rcases HW2.out k h with h|h <;> omega;exact hk) (fun k hk=>by rcases HW2.out k hk with h|h <;> omega);have hna:=dX.out.1;have hll:=sO.out;obtain ⟨v4,w9,hr9,o4,g9⟩:=DN _ _ _ _ v2 v3 w6.heap.size w7.heap.size w8 o2 o3 (rW _) (by omega) (by omega) (by omega);rw [<- rV,nD.out,sO.out] at o4;have kg:Z9 (fun k=>k<w8.heap.size/\¬ v2.ownBlock=some k) w8 w9:=⟨g9.os,g9.tape,g9.output,g9.size,fun k hk=>g9.block k hk.1 (fun e=>hk.2 e.symm)⟩;have o1:=Xu o1 kg (fun k e h=>by have:=HV1.out k e;have:=hv2 k h;omega);have I3:=YS I3 kg (fun k hk h=>by rcases hk with hk|hk;have hk:k=b3:=hk;have:=hv2 k h;omega;exact hk) (fun k hk=>by have:=hv2 k hk;omega);have uE:w8.heap.size<=w9.heap.size:=g9.size;have hB9:Below w.heap.size w w9:=by
       have a1:=Po.out.below (B:=w.heap.size) (fun k hk=>⟨by omega,fun h=>by omega⟩);have a2:=Ef.out.below (B:=w.heap.size) (fun k hk=>⟨by omega,fun h=>by omega⟩);have a3:=k3.below (B:=w.heap.size) (fun k hk=>⟨by omega,fun h=>by rcases HW2.out k h with h|h <;> omega⟩);have a4:=kg.below (B:=w.heap.size) (fun k hk=>⟨by omega,fun h=>by have:=hv2 k h;omega⟩);exact Zd nG.out (Zd a1 (Zd a2 (Zd a3 a4)))
      have hv4:∀ k,v4.ownBlock=some k->w6.heap.size<=k:=fun k e=>ZN o4 e;have Eh:=hide o1;have HO4:=hide o4;have HI3:=hide I3;have HB9:=hide hB9;have HS9:Hid (w6.heap.size<=w9.heap.size):=hide (by omega);obtain ⟨A1,c1,rfl,-⟩:=ZP o1;obtain ⟨A4,c4,rfl,-⟩:=ZP o4;clear S3 o1 o2 o3 o4 k3 kg I3 g9 hz hs6 hs7 uD uE hv2 hv4 hna hll HO2 HD2 Po Ef HW2 hB9;go_wp2_with (at_builtin;refine QW (.tmp 49) (.tmp 52) 28 rfl rfl _ _ rfl rfl hr9 ?_);clear hr9;go_wp2_with fail;refine (HR3.out w9).mono ?_;rintro e RL ⟨v5,rfl,o5,q10⟩;obtain ⟨A5,c5,rfl,-⟩:=ZP o5;have HV5:Hid (∀ b off,A5=some ⟨b,off,none⟩->w9.heap.size<=b):=hide fun b off e=>ZN o5 (by rw [e];rfl);have HS5:=hide (Sl.Zv o5);have zfc:=hide (ZI Eh.out q10);have zos:=hide (ZI HO4.out q10);have Ob:=hide (YR HI3.out q10);have IC:=hide (Zd HB9.out (Vu q10 HB9.out.size));have zov:Hid (w6.heap.size<=w9.heap.size/\w9.heap.size<=RL.heap.size):=hide ⟨HS9.out,q10.size⟩;clear HR3 Eh HO4 HI3 HB9 HS9 o5 q10;go_wp2
      go_loopw [10,59] (fun v i wr=>∃ (k:Nat) (W R:Nat->Prop),k<=n/\i=.int .i64 (k:Int)/\Y6 w.heap.size UN ([],[]) b3 W R (L.take k) wr/\(∀ j,W j->j=b3\/RL.heap.size<=j)/\(∀ j,R j->RL.heap.size<=j)/\(∀ j,W j\/R j->v.ownBlock≠some j)/\wr.ownsRow RL.heap.size 9 1 v k (ZF (Xf Vi [] (L.take k)))/\Z9 (fun j=>j<RL.heap.size/\¬ j=b3) RL wr)
       (fun _ i _=>n - (intOf i).toNat)
      case atStart=>exact ⟨0,_,_,Nat.zero_le _,rfl,Ob.out,fun j hj=>.inl hj,fun j hj=>hj.elim,fun j _ e=>(by cases e),World.ownsRow_nil _ _ _ _,Z9.refl _ _⟩
      case round =>
       obtain ⟨k,W,R,hk,rfl,hi,hW,hR,hd,ZT,hkp⟩:=hrel
       by_cases hkn:k<n
       · have hki:(k:Int)<(n:Int):=(by omega);have hz:=HZ.out;have Sc:=zov.out;have hs6:=mU.out;obtain ⟨x,hx⟩:∃ x,L[k]?=some x:=⟨_,List.getElem?_eq_getElem (by rw [<- dV.out];exact hkn)⟩;obtain ⟨b,off,rfl,hbb,hc⟩:=HS5.out.open_ (by unfold ZF;rw [List.length_map];have:=dV.out;omega);have hbw:=HV5.out b off rfl;have c0:wr.cell? ⟨b,off+k,none⟩=some (.string (strOf x)):=(hkp.cell ⟨hbb,by omega⟩ _).trans (hc k _ (Va hx));have zhi:=dX.out.1;have DD:=hide ((UO w.heap.size b3).step x (dX.out.2 x (List.mem_of_getElem? hx)) (by rw [List.length_take];omega) hi);have Lh:Hid (L.take (k+1)=L.take k++[x]):=hide (by rw [List.take_add_one,hx];rfl);obtain ⟨an,han⟩:=eE (Vi (L.take k) x);rw [<- han] at DD;have zaq:Hid (ZF (Xf Vi [] (L.take (k+1)))=ZF (Xf Vi [] (L.take k))++[.string (strOf an)]):=hide (by rw [Lh.out,Nj,List.nil_append,Tx,han]);have HST:=hide (And.intro hi (And.intro hW (And.intro hR (And.intro hd (And.intro ZT hkp)))));obtain ⟨sx,hsx⟩:=eE (strOf x);rw [<- hsx] at c0 DD;clear hi hW hR hd ZT hkp hz Sc hs6 hx hbb hc hbw han hsx;go_wp2_with fail;refine DD.out.mono ?_;rintro e Qp ⟨rfl,W',R',hi',hW',hR',hk'⟩;obtain ⟨hi,hW,hR,hd,ZT,hkp⟩:=HST.out;have hz:=HZ.out;have Sc:=zov.out;have hs6:=mU.out;have hsr:RL.heap.size<=wr.heap.size:=hkp.size;have Ox:wr.heap.size<=Qp.heap.size:=hk'.size;have Kj:=Xu ZT hk' (fun j e h=>hd j (.inl h) e);obtain ⟨M9,Ui⟩:=eE (Qp.alloc (.cells #[.string (strOf an)] 9));obtain ⟨g12,xK⟩:∃ g,g=Qp.heap.size:=⟨_,rfl⟩;have q12:=bE Ui;have N12:Z7 M9 g12 9 #[.string (strOf an)]:=(by rw [Ui,xK];exact Z7.new _ _ _);have Kk:=ZI Kj q12;have Nz:Qp.heap.size<=M9.heap.size:=q12.size;obtain ⟨i0,hi0,hz0,hz1,hz2⟩:=info_parts RJ;obtain ⟨g13,c13,Ph,zhs,xP,pK,zhd,-⟩:=run_append_lies (P:=prog) M9 28 28 RL.heap.size 9 i0 (.string ⟨#[]⟩) 1 16 underlying28 hi0 hz0 hz1 hz2 rfl (by decide) _ k _ Kk ⟨g12,0,none⟩ 1 1 [.string (strOf an)] rfl (ZB N12) (by simp [Value.oneCell']) (by omega) (by unfold maxLen;omega) (by omega) (by omega) _ rfl;rw [<- zaq.out] at xP;have hvl:=fun j e=>Yk (k:=j) ZT e;have hvb:=fun j e=>ZN (k:=j) ZT e;have kk:=(Z9.of_below (P:=fun j=>j<Qp.heap.size/\¬ _=some j) q12 fun j hj=>hj.1).trans ⟨pK.os,pK.tape,pK.output,pK.size,fun j hj=>pK.block j (Nat.lt_of_lt_of_le hj.1 Nz) (fun e=>hj.2 e.symm)⟩
         have jd:∀ j,W' j\/R' j->¬ _=some j:=fun j hj e=>by
          have h1:=hvl j e;rcases hj with h|h
          · rcases hW' j h with h|h
            · exact hd j (.inl h) e
            · omega
          · rcases hR' j h with h|h
            · exact hd j (.inr h) e
            · omega
         have zhb:=YS hi' kk jd (fun j e=>by have:=hvb j e;omega);have hlt':∀ j,W' j\/R' j->j<Qp.heap.size:=fun j hj=>Wy ((UO w.heap.size b3).cell hi' j hj)
         have hF:Hid (∃ (W R:Nat->Prop),Y6 w.heap.size UN ([],[]) b3 W R (L.take (k+1)) Ph/\(∀ j,W j->j=b3\/RL.heap.size<=j)/\(∀ j,R j->RL.heap.size<=j)/\(∀ j,W j\/R j->(Value.slice (some ⟨g13,0,none⟩) (k+1) c13).ownBlock≠some j)/\Ph.ownsRow RL.heap.size 9 1 (.slice (some ⟨g13,0,none⟩) (k+1) c13) (k+1) (ZF (Xf Vi [] (L.take (k+1))))/\Z9 (fun j=>j<RL.heap.size/\¬ j=b3) RL Ph):=hide ⟨W',R',by rw [Lh.out];exact zhb,fun j h=>by
          rcases hW' j h with h|h
          · exact hW j h
          · exact .inr (by omega),fun j h=>by
          rcases hR' j h with h|h
          · exact hR j h
          · omega,fun j hj e=>by
          have e:some g13=some j:=e;have e:=Option.some.inj e;subst e;rcases zhd with h|h
          · exact jd _ hj h
          · have:=hlt' _ hj;omega,xP,
          (hkp.trans (hk'.mono fun j hj=>⟨by omega,fun h=>by rcases hW j h with h|h <;> omega⟩)).trans (kk.mono fun j hj=>⟨by omega,fun e=>by have:=hvb j e;omega⟩)⟩
         clear hi hW hR hd ZT hkp hz Sc hs6 hsr Ox Kj q12 N12 Kk Nz hi0 hz0 hz1 hz2 xP pK zhd hvl hvb kk jd zhb hlt' hi' hW' hR' hk' DD HST c0;go_wp2_with (at_builtin;rw [<- Ui,<- xK];refine QW (.tmp 63) (.tmp 67) 28 rfl rfl _ _ rfl rfl zhs ?_);clear Ui xK zhs;go_wp2;go_roundw
         case rel =>
          obtain ⟨W,R,h⟩:=hF.out;exact ⟨k+1,W,R,by omega,by go_num,h⟩
         case measure=>simp [intOf];omega
       · obtain rfl:k=n:=(by omega);have hki:¬ (k:Int)<(k:Int):=(by omega);rw [List.take_of_length_le (Nat.le_of_eq dV.out.symm)] at ZT;have hz:=HZ.out;have Sc:=zov.out;have hs6:=mU.out;have o1:=Xu zfc.out hkp (fun j e h=>by have:=HV1.out j e;omega);have o4:=Xu zos.out hkp (fun j e h=>by have:=ZN zos.out e;omega);have hBr:Below w.heap.size w wr:=Zd IC.out (hkp.below fun j hj=>⟨by have:=IC.out.size;omega,by omega⟩);obtain ⟨A7,c7,rfl,-⟩:=ZP ZT;have AL:=hide (sM.out wr hBr);have hrl:(Xf Vi [] L).length=k:=(by rw [Jw,<- dV.out]);have zhi:=dX.out.1;have T1:=Sl.Zv o1;have T4:=Sl.Zv o4;have T7:=Sl.Zv ZT
         have E1:Hid (∀ X,Below wr.heap.size wr X->Calls prog 16 #[.slice A1 k c1,.slice A4 k c4] X fun e w'=>e=.returned (.bool true)/\Below X.heap.size X w'):=hide fun X hX=>by
          have h:=VF (Xf Vi [] L) A1 A4 c1 c4 X (by omega) ((T1.below hX).more hX.size) ((T4.below hX).more hX.size);rwa [hrl] at h
         have E2:Hid (∀ X,Below wr.heap.size wr X->Calls prog 16 #[.slice A1 k c1,.slice A7 k c7] X fun e w'=>e=.returned (.bool true)/\Below X.heap.size X w'):=hide fun X hX=>by
          have h:=VF (Xf Vi [] L) A1 A7 c1 c7 X (by omega) ((T1.below hX).more hX.size) ((T7.below hX).more hX.size);rwa [hrl] at h
         have RN:=hide hBr;clear ZT hz Sc hs6 o1 o4 hBr hrl zhi T1 T4 T7 hi hW hR hd hkp zfc zos Ob;go_wp2_with fail;refine AL.out.mono ?_;rintro e zJ ⟨rfl,q14⟩;have E1':=hide (E1.out zJ q14);have Q14:=hide q14;clear q14 AL E1;go_wp2_with fail;refine E1'.out.mono ?_;rintro e w15 ⟨rfl,q15⟩;have Q15:=hide (Z8 Q14.out q15);have E2':=hide (E2.out w15 Q15.out);clear q15 E1' E2;go_wp2_with fail;refine E2'.out.mono ?_;rintro e w16 ⟨rfl,q16⟩;have Q16:=hide (Z8 Q15.out q16);clear q16 E2';go_wp2;go_ret;exact ⟨rfl,Z8 RN.out Q16.out⟩
end
end
end Go.Proofs.YthnenedoblncjaaGreatDoor