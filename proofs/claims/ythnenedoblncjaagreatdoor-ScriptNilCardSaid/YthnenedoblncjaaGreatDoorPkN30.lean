/- Network -/
import Derived.ChangeAlike
import Derived.LoopIn
import Derived.LoopNIn
import Derived.OwnWalkIn
import Derived.RangeFuncBound
import Derived.RangeFuncCalls
import Derived.RangeFuncLeaves
import Derived.RangeFuncNested
import Derived.Shelf.Abstract
import Derived.Shelf.RegionOpen
import Derived.Shelf.Small.Bits
import Derived.TacticsInMore
import Derived.Test.YthnenedoblncjaaGreatDoorPkN07
import Derived.Test.YthnenedoblncjaaGreatDoorPkN23
import Derived.Test.YthnenedoblncjaaGreatDoorPkN26
set_option maxRecDepth 1000000
set_option maxHeartbeats 8000000
namespace Go.Proofs.YthnenedoblncjaaGreatDoor
open Go.Proofs.Tryz
section
open Go.RowKit Go.Shelf
attribute [local go_sem] Oper.semAt_some
theorem FQ(n:Nat):n ^^^ 1=if n % 2=0 then n+1 else n - 1:=by
 have h1:(n ^^^ 1) / 2=n / 2:=by rw [Nat.xor_div_two];simp
 have h2:(n ^^^ 1) % 2=(n+1) % 2:=by
  have:=@Nat.xor_mod_two_eq_one n 1;omega
 have h3:=Nat.div_add_mod (n ^^^ 1) 2;have h4:=Nat.div_add_mod n 2;split <;> omega
theorem FR(i a:Nat):i ^^^ 2 ^ a=if i / 2 ^ a % 2=0 then i+2 ^ a else i - 2 ^ a:=by
 have h0:=Nat.two_pow_pos a;have h1:(i ^^^ 2 ^ a) / 2 ^ a=i / 2 ^ a ^^^ 1:=by
  rw [Nat.xor_div_two_pow,Nat.div_self h0]
 have h2:(i ^^^ 2 ^ a) % 2 ^ a=i % 2 ^ a:=by
  rw [Nat.xor_mod_two_pow,Nat.mod_self];simp
 have h3:=Nat.div_add_mod (i ^^^ 2 ^ a) (2 ^ a);have h4:=Nat.div_add_mod i (2 ^ a);rw [h1,h2,FQ] at h3;generalize i / 2 ^ a=q at h3 h4 ⊢
 by_cases hq:q % 2=0
 · rw [if_pos hq] at h3 ⊢;rw [Nat.mul_add] at h3;omega
 · rw [if_neg hq] at h3 ⊢;obtain ⟨p,rfl⟩:∃ p,q=p+1:=⟨q - 1,by omega⟩;rw [Nat.add_sub_cancel] at h3;rw [Nat.mul_add] at h4;omega
theorem DR(i s:Nat):(i &&& 2 ^ s=0) ↔ i / 2 ^ s % 2=0:=by
 have e:i.testBit s=decide (i / 2 ^ s % 2=1):=Nat.testBit_eq_decide_div_mod_eq ..;constructor
 · intro h;have h1:(i &&& 2 ^ s).testBit s=false:=(by rw [h];exact Nat.zero_testBit s);rw [Nat.testBit_and,Nat.testBit_two_pow_self,Bool.and_true,e] at h1;have:=of_decide_eq_false h1;omega
 · intro h;refine Nat.eq_of_testBit_eq fun t=>?_;rw [Nat.testBit_and,Nat.testBit_two_pow,Nat.zero_testBit]
   by_cases hs:s=t
   · subst hs;rw [e,decide_eq_false (by omega)];rfl
   · rw [decide_eq_false hs,Bool.and_false]
theorem Ur(a b:Nat)(ha:a<9223372036854775808)(hb:b<9223372036854775808):bits .and .i64 (a:Int) (b:Int)=((a &&& b:Nat):Int):=by
 have hx:a &&& b<2 ^ 63:=Nat.and_lt_two_pow _ (by omega);show IntKind.i64.wrap ((BitVec.ofInt 64 (a:Int) &&& BitVec.ofInt 64 (b:Int)).toNat:Int)=_;rw [BitVec.toNat_and,ofInt_u64 a (by omega),ofInt_u64 b (by omega),IntKind.wrap_i64];omega
theorem OZ(a b:Nat)(ha:a<9223372036854775808)(hb:b<9223372036854775808):bits .xor .i64 (a:Int) (b:Int)=((a ^^^ b:Nat):Int):=by
 have hx:a ^^^ b<2 ^ 63:=Nat.xor_lt_two_pow (by omega) (by omega);show IntKind.i64.wrap ((BitVec.ofInt 64 (a:Int) ^^^ BitVec.ofInt 64 (b:Int)).toNat:Int)=_;rw [BitVec.toNat_xor,ofInt_u64 a (by omega),ofInt_u64 b (by omega),IntKind.wrap_i64];omega
theorem Ve{m:Nat}(h:m<=12):2 ^ m<=4096:=Nat.pow_le_pow_right (by omega) h
theorem ES(m:Nat)(hm:m<=12)(w:World):Calls prog 311 #[.int .i64 ((2 ^ m:Nat):Int)] w fun e w'=>e=.returned (.bool true)/\w=w':=by
 have h1:=Nat.two_pow_pos m;have h2:=Ve hm;obtain ⟨n,hn⟩:=eE (2 ^ m);have h3:bits .and .i64 (n:Int) ((n:Int) - 1)=0:=by
  have e:((n:Int) - 1)=((n - 1:Nat):Int):=by omega
  rw [e,Ur _ _ (by omega) (by omega),hn,Nat.and_two_pow_sub_one_eq_mod,Nat.mod_self];rfl
 rw [<- hn] at h1 h2 ⊢;have g1:(1:Int)<=(n:Int):=by omega
 have g2:(n:Int)<=4096:=by omega
 clear hn;go_enter func311,ntmps311;go_wp2;go_ret;exact ⟨by simp,rfl⟩
abbrev Dt(m:Nat):={ c:Nat × Nat // zi (2 ^ m) c }
def G7{m:Nat}(c:Dt m):Array Value:=#[.agg #[.int .i64 (c.1.1:Int),.int .i64 (c.1.2:Int)]]
def WU{m:Nat}(l:List (Dt m)):List (Nat × Nat):=l.map (·.1)
theorem Sq{m:Nat}(l:List (Dt m))(c:Dt m):WU (l++[c])=WU l++[c.1]:=by simp [WU]
theorem o9(b:Nat):(2 ^ (b+1)) / 2=2 ^ b:=by rw [Nat.pow_succ];omega
theorem EN (n:Nat) (hn1:1<=n) (l Bv:Nat) (PE:Nat->Prop) (m:Nat) (hm:m<=12) (J Jx:List (Dt m)->World->Prop) (W:World)
 (hJ:AbidesFrom W.heap.size J) (TK:∀ k,PE k->k<W.heap.size) (CY:PE Bv)
 (hY:∀ pre x W1,J pre W1->pre.length<(Y5 m).length->YieldAt Fence.wide (n - 1) prog l (G7 x) W1 fun e W' =>
   (e=.returned (.bool true)/\J (pre++[x]) W'/\Z9 PE W1 W')\/(e=.returned (.bool false)/\Jx (pre++[x]) W'))
 (JC:Z6 W Bv 3 #[.int .i64 ((2 ^ m:Nat):Int)]) (h0:J [] W) :
 CallsIn Fence.wide n prog 310 #[.func (.yield l) #[] #[],.pointer (some ⟨Bv,0,none⟩)] W fun e W'=>(∃ v,e=.returned v) /\
  ((∃ ys,WU ys=Y5 m/\J ys W')\/(∃ pre,WU pre <+: Y5 m/\Jx pre W')):=by
 have hp0:=Nat.two_pow_pos m;have El:=Ve hm;have HIS:=hide (fun w=>ES m hm w);obtain ⟨N,hN⟩:=eE (2 ^ m);have HN:=hide hN;rw [<- hN] at hp0 El HIS JC;have cv:=JC.q0 rfl;have HY:=hide hY;have HJ:=hide hJ;clear hY hJ hN;refine callsIn_of_wp func310 rfl trivial ?_ rfl;simp only [ntmps310,List.size_toArray,List.length_cons,List.length_nil,Nat.reduceAdd,Nat.reduceSub,Array.replicate_succ,Array.replicate_zero,List.push_toArray,List.append_toArray,List.nil_append,List.cons_append];refine Yf ?_;gi_wp2_with fail;refine ⟨trivial,?_⟩;refine (callsIn_wide.2 (HIS.out _)).mono ?_;rintro e w1 ⟨rfl,rfl⟩;gi_wp2_with fail;refine wpIn_label ?_;gi_wp2_with fail
 gi_loopw [3] (fun k wr=>∃ (s:Nat) (pre:List (Dt m)),s<=m/\k=.int .i64 ((2 ^ (s+1):Nat):Int)/\Hid (WU pre++rounds N s (m - s)=Y5 m)/\J pre wr/\Z9 PE W wr)
  (fun k _=>8193 - (intOf k).toNat)
 case atStart=>exact ⟨0,[],Nat.zero_le _,by simp,hide (by rw [HN.out];rfl),h0,Z9.refl _ _⟩
 case round =>
  obtain ⟨s,pre,hs,rfl,hpre,hJs,hkp⟩:=hrel;have kE:wr.cell? ⟨Bv,0,none⟩=some (.int .i64 (N:Int)):=(JC.kept hkp CY).q0 rfl
  by_cases hsm:s<m
  · have hk1:2 ^ (s+1)<=N:=(by rw [HN.out];exact Nat.pow_le_pow_right (by omega) hsm);have hr:Hid (rounds N s (m - s)=merges N (2 ^ (s+1)) (s+1)++rounds N (s+1) (m - (s+1))):=by
     obtain ⟨r,hr⟩:∃ r,m - s=r+1:=⟨m - s - 1,by omega⟩;have e:m - (s+1)=r:=(by omega);rw [hr,e];exact rfl
    have hq2:(((2 ^ (s+1):Nat):Int)) / 2=((2 ^ (s+1) / 2:Nat):Int):=(by omega);obtain ⟨K,hK⟩:=eE (2 ^ (s+1));obtain ⟨j0,hj0⟩:=eE (2 ^ (s+1) / 2);have HK:=hide hK;have jJ:=hide hj0;rw [<- hj0,<- hK] at hq2;rw [<- hK] at hk1 hr ⊢;clear hK hj0;have hki:(K:Int)<=(N:Int):=(by omega);have xX:0<K:=(by rw [HK.out];exact Nat.two_pow_pos _);gi_wp2_with fail
    gi_loopw [4] (fun j wm=>∃ (b jv:Nat) (IW:List (Dt m)),b<=s+1/\j=.int .i64 (jv:Int)/\Hid (jv=2 ^ b / 2)/\Hid (WU IW++(merges N K b++rounds N (s+1) (m - (s+1)))=Y5 m)/\J IW wm/\Z9 PE W wm)
     (fun j _=>(intOf j).toNat)
    case atStart=>exact ⟨s+1,j0,pre,Nat.le_refl _,rfl,jJ,hide (by rw [<- hr.out];exact hpre.out),hJs,hkp⟩
    case round =>
     clear hJs hkp hpre kE hq2 jJ hr;obtain ⟨b,jv,IW,hb,rfl,qb,Ib,hJ2,Ei⟩:=hrel;have iA:wr.cell? ⟨Bv,0,none⟩=some (.int .i64 (N:Int)):=(JC.kept Ei CY).q0 rfl;cases b with
     | zero =>
       have hz:jv=0:=qb.out;subst hz;clear qb;have hw:IntKind.i64.wrap ((K:Int)*2)=((K*2:Nat):Int):=(by rw [IntKind.wrap_i64];omega);gi_wp2_with fail;go_roundw
       case rel =>
        refine ⟨s+1,IW,hsm,?_,Ib,hJ2,Ei⟩;rw [HK.out,Nat.pow_succ 2 (s+1)];simp
       case measure=>simp [intOf];omega
     | succ b =>
       have hjp:jv=2 ^ b:=(by rw [qb.out];exact o9 b);have hj1:0<jv:=(by rw [hjp];exact Nat.two_pow_pos b);have dx:jv<=N:=(by rw [hjp,HN.out];exact Nat.pow_le_pow_right (by omega) (by omega));have hji:(0:Int)<(jv:Int):=(by omega);have mH:=hide hjp;clear hjp qb;gi_wp2_with fail
       gi_loopw [22] (fun i wi=>∃ (x:Nat) (XP:List (Dt m)),x<=N/\i=.int .i64 (x:Int)/\Hid (WU XP++(((List.range N).drop x).filterMap (Zi K jv)++(merges N K b++rounds N (s+1) (m - (s+1))))=Y5 m)/\J XP wi/\Z9 PE W wi)
        (fun i _=>N - (intOf i).toNat)
       case atStart=>exact ⟨0,IW,Nat.zero_le _,rfl,hide (by rw [<- Ib.out,List.drop_zero,merges,<- mH.out,List.append_assoc (PY N K jv)];rfl),hJ2,Ei⟩
       case round =>
        clear hJ2 Ei Ib iA;obtain ⟨x,XP,hx,rfl,Xf,hJ3,hkp3⟩:=hrel
        by_cases jk:x<N
        · have hxi:(x:Int)<(N:Int):=(by omega);have hxo:bits BinOp.xor IntKind.i64 (x:Int) (jv:Int)=((x ^^^ jv:Nat):Int):=OZ _ _ (by omega) (by omega);have hxa:bits BinOp.and IntKind.i64 (x:Int) (K:Int)=((x &&& K:Nat):Int):=Ur _ _ (by omega) (by omega);have hxp:=FR x b;rw [<- mH.out] at hxp;have hap:=DR x (s+1);rw [<- HK.out] at hap;have hdr:(List.range N).drop x=x::(List.range N).drop (x+1):=by
           rw [List.drop_eq_getElem_cons (by simpa using jk)];simp
          rw [hdr] at Xf
          by_cases hbit:x / jv % 2=0
          · rw [if_pos hbit] at hxp;obtain ⟨y,hy⟩:=eE (x ^^^ jv);rw [<- hy] at hxo hxp;have hyx:¬ (y:Int)<(x:Int):=(by omega);clear hy
            by_cases hkb:x / K % 2=0
            · have hx0:x &&& K=0:=hap.2 hkb;rw [hx0] at hxa;have e0:Zi K jv x=some (x,y):=(by unfold Zi;rw [if_neg (by omega),if_neg (by omega),hxp]);have hin:(x,y)∈Y5 m:=(by rw [<- Xf.out,List.filterMap_cons_some e0];simp);have hlen:XP.length<(Y5 m).length:=by
               have:=congrArg List.length Xf.out;rw [List.filterMap_cons_some e0] at this;simp [WU] at this;omega
              obtain ⟨wa,En⟩:=eE (wr.alloc (.cells #[.int .i64 (x:Int),.int .i64 (y:Int)] 326));have sP:J XP wa:=(by rw [En];exact HJ.out _ _ _ none hJ3 (World.grownBy_alloc wr _ none) (fun r e=>by cases e));have hKa:Z9 PE W wa:=(by rw [En];exact hkp3.trans (Z9.of_below (bA) (fun k hk=>Nat.lt_of_lt_of_le (TK k hk) hkp3.size)));obtain ⟨fn,tmps,assign,body,hyl,hR⟩:=HY.out XP ⟨(x,y),Y1 hin⟩ wa sP hlen;unfold G7 at hyl;dsimp only at hyl
              have hR2:=hide (hR.mono (R':=fun e W'=>∃ r,e=.returned (.bool r)/\(r=true->J (XP++[⟨(x,y),Y1 hin⟩]) W'/\Z9 PE W W')/\(r=false->Jx (XP++[⟨(x,y),Y1 hin⟩]) W')) (by
               rintro e W' (⟨rfl,h1,h2⟩|⟨rfl,h1⟩)
               · exact ⟨true,rfl,fun _=>⟨h1,hKa.trans h2⟩,fun h=>by cases h⟩
               · exact ⟨false,rfl,(fun h=>by cases h),fun _=>h1⟩))
              have Gi:Hid (WU (XP++[⟨(x,y),Y1 hin⟩])++(((List.range N).drop (x+1)).filterMap (Zi K jv)++(merges N K b++rounds N (s+1) (m - (s+1))))=Y5 m):=hide (by rw [Sq,<- Xf.out,List.filterMap_cons_some e0];simp);have Gl:Hid (WU (XP++[⟨(x,y),Y1 hin⟩]) <+: Y5 m):=hide ⟨_,Gi.out⟩;generalize XP++[⟨(x,y),Y1 hin⟩]=IX at Gi Gl hR2;have gK:=hide hxp;clear hR sP hKa hlen hin hdr Xf hJ3 hkp3 hxp hap hkb hbit e0;gi_wp2_with fail;rw [<- En];clear En;rw [hyl];refine ⟨fun _=>hn1,?_⟩;refine hR2.out.mono ?_;rintro e W3 ⟨r,rfl,hr1,hr2⟩;have HR1:=hide hr1;have HR2:=hide hr2;clear hr1 hr2 hyl hR2;cases r with
              | false =>
                gi_wp2;unfold Exit.noGoto;dsimp only;go_end0;exact ⟨⟨_,rfl⟩,.inr ⟨IX,Gl.out,HR2.out (by trivial)⟩⟩
              | true =>
                gi_wp2;go_roundw
                case rel=>exact ⟨x+1,IX,by omega,by go_num,Gi,HR1.out (by trivial)⟩
                case measure=>simp [intOf];omega
            · have hxn:¬ x &&& K=0:=fun h=>hkb (hap.1 h);obtain ⟨xk,hxk⟩:=eE (x &&& K);rw [<- hxk] at hxa hxn;have jl:¬ (xk:Int)=0:=(by omega);clear hxk hxn;have e0:Zi K jv x=some (y,x):=(by unfold Zi;rw [if_neg (by omega),if_pos (by omega),hxp]);have hin:(y,x)∈Y5 m:=(by rw [<- Xf.out,List.filterMap_cons_some e0];simp);have hlen:XP.length<(Y5 m).length:=by
               have:=congrArg List.length Xf.out;rw [List.filterMap_cons_some e0] at this;simp [WU] at this;omega
              obtain ⟨wa,En⟩:=eE (wr.alloc (.cells #[.int .i64 (y:Int),.int .i64 (x:Int)] 326));have sP:J XP wa:=(by rw [En];exact HJ.out _ _ _ none hJ3 (World.grownBy_alloc wr _ none) (fun r e=>by cases e));have hKa:Z9 PE W wa:=(by rw [En];exact hkp3.trans (Z9.of_below (bA) (fun k hk=>Nat.lt_of_lt_of_le (TK k hk) hkp3.size)));obtain ⟨fn,tmps,assign,body,hyl,hR⟩:=HY.out XP ⟨(y,x),Y1 hin⟩ wa sP hlen;unfold G7 at hyl;dsimp only at hyl
              have hR2:=hide (hR.mono (R':=fun e W'=>∃ r,e=.returned (.bool r)/\(r=true->J (XP++[⟨(y,x),Y1 hin⟩]) W'/\Z9 PE W W')/\(r=false->Jx (XP++[⟨(y,x),Y1 hin⟩]) W')) (by
               rintro e W' (⟨rfl,h1,h2⟩|⟨rfl,h1⟩)
               · exact ⟨true,rfl,fun _=>⟨h1,hKa.trans h2⟩,fun h=>by cases h⟩
               · exact ⟨false,rfl,(fun h=>by cases h),fun _=>h1⟩))
              have Gi:Hid (WU (XP++[⟨(y,x),Y1 hin⟩])++(((List.range N).drop (x+1)).filterMap (Zi K jv)++(merges N K b++rounds N (s+1) (m - (s+1))))=Y5 m):=hide (by rw [Sq,<- Xf.out,List.filterMap_cons_some e0];simp);have Gl:Hid (WU (XP++[⟨(y,x),Y1 hin⟩]) <+: Y5 m):=hide ⟨_,Gi.out⟩;generalize XP++[⟨(y,x),Y1 hin⟩]=IX at Gi Gl hR2;have gK:=hide hxp;clear hR sP hKa hlen hin hdr Xf hJ3 hkp3 hxp hap hkb hbit e0;gi_wp2_with fail;rw [<- En];clear En;rw [hyl];refine ⟨fun _=>hn1,?_⟩;refine hR2.out.mono ?_;rintro e W3 ⟨r,rfl,hr1,hr2⟩;have HR1:=hide hr1;have HR2:=hide hr2;clear hr1 hr2 hyl hR2;cases r with
              | false =>
                gi_wp2;unfold Exit.noGoto;dsimp only;go_end0;exact ⟨⟨_,rfl⟩,.inr ⟨IX,Gl.out,HR2.out (by trivial)⟩⟩
              | true =>
                gi_wp2;go_roundw
                case rel=>exact ⟨x+1,IX,by omega,by go_num,Gi,HR1.out (by trivial)⟩
                case measure=>simp [intOf];omega
          · rw [if_neg hbit] at hxp;obtain ⟨y,hy⟩:=eE (x ^^^ jv);rw [<- hy] at hxo hxp;have iU:jv<=x:=(TQ hj1 (by omega)).1;have hyx:(y:Int)<(x:Int):=(by omega);have e0:Zi K jv x=none:=(by unfold Zi;rw [if_pos (by omega)]);have Gi:Hid (WU XP++(((List.range N).drop (x+1)).filterMap (Zi K jv)++(merges N K b++rounds N (s+1) (m - (s+1))))=Y5 m):=hide (by rw [<- Xf.out,List.filterMap_cons_none e0]);have eP:=hide (HJ.out _ _ _ none hJ3 (World.grownBy_alloc wr (.cells #[.int .i64 (x:Int),.int .i64 (y:Int)] 326) none) (fun r e=>by cases e));have eY:=hide (hkp3.trans (Z9.of_below (ZY (Below.refl _ _) (.cells #[.int .i64 (x:Int),.int .i64 (y:Int)] 326)) (fun k hk=>Nat.lt_of_lt_of_le (TK k hk) hkp3.size)));clear hxa hxp hap hdr Xf hbit hy iU e0 hJ3 hkp3;gi_wp2_with fail;go_roundw
            case rel=>exact ⟨x+1,XP,by omega,by go_num,Gi,eP.out,eY.out⟩
            case measure=>simp [intOf];omega
        · obtain rfl:x=N:=(by omega);have Gi:Hid (WU XP++(merges x K b++rounds x (s+1) (m - (s+1)))=Y5 m):=hide (by rw [<- Xf.out,List.drop_of_length_le (by simp)];rfl);have hq:(jv:Int) / 2=((jv / 2:Nat):Int):=(by omega);obtain ⟨j2,hj2⟩:=eE (jv / 2);rw [<- hj2] at hq;have HJ2:Hid (j2=2 ^ b / 2):=hide (by rw [hj2,mH.out]);have hlt:j2<jv:=(by omega);clear hj2 Xf;gi_wp2_with fail;go_roundw
          case rel=>exact ⟨b,j2,XP,by omega,rfl,HJ2,Gi,hJ3,hkp3⟩
          case measure=>simp [intOf];omega
  · obtain rfl:s=m:=(by omega);have p9:(N:Int)<(((2 ^ (s+1):Nat)):Int):=by
     have e:=HN.out;have e2:2 ^ (s+1)=2*2 ^ s:=(by rw [Nat.pow_succ,Nat.mul_comm]);omega
    have HP:Hid (WU pre=Y5 s):=hide (by have:=hpre.out;rw [Nat.sub_self,rounds,List.append_nil] at this;exact this);obtain ⟨K,hK⟩:=eE (2 ^ (s+1));rw [<- hK] at p9 ⊢;clear hpre hK;gi_wp2_with fail;unfold Exit.noGoto;dsimp only;go_end0;exact ⟨⟨_,rfl⟩,.inl ⟨_,HP.out,hJs⟩⟩
theorem KH(n:Nat)(hn1:1<=n)(Bv:Nat)(PE:Nat->Prop)(m:Nat)(hm:m<=12)(w:World)(TK:∀ k,PE k->k<w.heap.size)(CY:PE Bv)(JC:Z6 w Bv 3 #[.int .i64 ((2 ^ m:Nat):Int)]):
 SeqStopsK Fence.wide n prog 310 #[.pointer (some ⟨Bv,0,none⟩)] (G7 (m:=m)) (Z9 PE) (fun ys=>WU ys=Y5 m) (fun pre=>WU pre <+: Y5 m) (Y5 m).length w:=by
 intro l J Jx W hW hJ _ hY h0;exact EN n hn1 l Bv PE m hm J Jx W hJ (fun k hp=>Nat.lt_of_lt_of_le (TK k hp) hW.size) CY hY (JC.step hW) h0
theorem IE(n:Int)(w:World):
 Calls prog 278 #[.int .i64 n] w fun e w'=>e=.returned (.func (.func 310) #[] #[.pointer (some ⟨w.heap.size,0,none⟩)])/\w'=w.alloc (.cells #[.int .i64 n] 3):=by
 go_enter func278,ntmps278;go_wp2;go_ret;exact ⟨rfl,rfl⟩
def lg(n:Nat):Nat:=Lib.bitLen (n - 1)
theorem Dp{n:Nat}(h:n<=4096):lg n<=12:=Lib.bitLen_le (n - 1) 12 (by omega) (by omega)
theorem CO:∀ (f x:Nat),x<2 ^ f->x<2 ^ Lib.bitLenAux f x
 | 0,x,h=>by simpa [Lib.bitLenAux] using h
 | f+1,x,h=>by
   rw [Lib.bitLenAux]
   by_cases hx:x=0
   · rw [if_pos hx,hx];exact Nat.two_pow_pos _
   · rw [if_neg hx,Nat.add_comm,Nat.pow_succ];have:=CO f (x / 2) (by rw [Nat.pow_succ] at h;omega);omega
theorem Dn{n:Nat}(h:n<=4096):n<=2 ^ lg n:=by
 have h1:=CO 64 (n - 1) (by omega)
 change n - 1<2 ^ lg n at h1
 omega
theorem KI(n:Nat)(h1:1<=n)(h2:n<=4096)(w:World):
 Calls prog 277 #[.int .i64 (n:Int)] w fun e w'=>e=.returned (.int .i64 ((2 ^ lg n:Nat):Int))/\w=w':=by
 have g1:¬ (n:Int)<1:=by omega
 have g2:(n:Int)<=4096:=by omega
 have hl:=Dp h2;have hp:=Ve hl;have HL:=hide (fun w=>Any.bits_Len Tryz.lays125 ((n:Int) - 1) w (by omega) (by omega));have e:((n:Int) - 1).toNat=n - 1:=by omega
 rw [e] at HL;have e2:Lib.bitLen (n - 1)=lg n:=rfl;rw [e2] at HL;obtain ⟨L,hL⟩:=eE (lg n);rw [<- hL] at HL hl hp ⊢;clear e e2 hL;go_enter func277,ntmps277;go_wp2_with fail;refine (HL.out w).mono ?_;rintro e w' ⟨rfl,rfl⟩;go_wp2;go_ret;have hc:((2 ^ L:Nat):Int)=(2:Int) ^ L:=by simp
 have hw:wrap64 ((2:Int) ^ L)=((2 ^ L:Nat):Int):=by
  rw [<- hc];generalize 2 ^ L=p at hp;exact IntWalk.wrap64_in _ (by omega)
 exact ⟨Xb hw,rfl⟩
end
end Go.Proofs.YthnenedoblncjaaGreatDoor