/- RefNet12 RefEv20 RefEv20B EvMath21 TraceEv TraceExp2 TraceExp3 TraceMath EvApp2 RefEv20C -/
import Derived.Test.YtfljlmleiggmjaaGreatDoorPkD31
import Derived.Test.YtfljlmleiggmjaaGreatDoorPkD38
set_option maxRecDepth 1000000
set_option maxHeartbeats 8000000
namespace Go.Proofs.YtfljlmleiggmjaaGreatDoor
open Go.Proofs.Tryz
section
open Go.RowKit Go.Shelf
theorem II:(prog.info? 213).map (fun i=>(i.zero,i.size,i.bytes))=some (some (.agg #[.int .i64 0,.int .i64 0]),2,16):=by kernel_rfl
def Qt(cs:List (Nat × Nat)):List Value:=cs.flatMap fun c=>[.int .i64 (c.1:Int),.int .i64 (c.2:Int)]
theorem IU(cs:List (Nat × Nat))(c:Nat × Nat):Qt (cs++[c])=Qt cs++[.int .i64 (c.1:Int),.int .i64 (c.2:Int)]:=by simp [Qt]
theorem D8{m:Nat}(hm:m<=7):(YZ m).length<=20000:=by
 have h1:∀ m:Fin 8,(YZ m.val).length<=20000:=by decide +kernel
 exact h1 ⟨m,by omega⟩
theorem rP(i v:Nat)(hi:i<100000)(hv:v<100000)(h0:0<v)(w:World):Calls prog 195 #[.int .i64 (i:Int),.int .i64 (v:Int)] w fun e w'=>e=.returned (.bool (decide (i / v % 2=1)))/\w'=w:=by
 have hv0:((v:Int) == 0)=false:=by rw [beq_eq_false_iff_ne];omega
 have hv1:¬ (v:Int)=0:=by omega
 have hq:(i:Int).tdiv (v:Int)=((i / v:Nat):Int):=by rw [Int.tdiv_eq_ediv_of_nonneg (by omega)];simp
 have hle:i / v<=i:=Nat.div_le_self _ _;obtain ⟨q,hqq⟩:=eE (i / v);rw [<- hqq] at hq hle ⊢;have hw1:IntKind.i64.wrap (q:Int)=(q:Int):=by rw [IntKind.wrap_i64];omega
 have hr:(q:Int).tmod 2=((q % 2:Nat):Int):=by rw [Int.tmod_eq_emod_of_nonneg (by omega)];simp
 have hw2:IntKind.i64.wrap ((q % 2:Nat):Int)=((q % 2:Nat):Int):=by rw [IntKind.wrap_i64];omega
 clear hqq;go_enter func195,ntmps195;go_wp2;go_ret;exact ⟨YM (by rw [Bool.eq_iff_iff];simp;omega),rfl⟩
theorem bO(m:Nat)(hm:m<=12)(w:World):Calls prog 194 #[.int .i64 ((2 ^ m:Nat):Int)] w fun e w'=>e=.returned (.bool true)/\w'=w:=by
 obtain ⟨N,hN⟩:=eE (2 ^ m);have zwv:=TG hm;have HN:=hide hN;rw [<- hN] at zwv ⊢;clear hN;go_enter func194,ntmps194;go_wp2
 go_loopw [3] (fun k wr=>∃ s:Nat,s<=m/\k=.int .i64 ((2 ^ s:Nat):Int)/\wr=w) (fun k _=>4097 - (intOf k).toNat)
 case atStart=>exact ⟨0,Nat.zero_le _,rfl,rfl⟩
 case round =>
  obtain ⟨s,hs,rfl,rfl⟩:=hrel;have hle:2 ^ s<=N:=by rw [HN.out];exact Nat.pow_le_pow_right (by omega) hs
  have h0:=Nat.two_pow_pos s;have hsu:2 ^ (s+1)=2 ^ s*2:=Nat.pow_succ 2 s
  by_cases hsm:s<m
  · have hlt:2 ^ (s+1)<=N:=(by rw [HN.out];exact Nat.pow_le_pow_right (by omega) hsm);obtain ⟨K,hK⟩:=eE (2 ^ s);rw [hsu] at hlt;rw [<- hK] at hle h0 hlt ⊢;have hKe:Hid (2 ^ (s+1)=K*2):=hide (by rw [hsu,hK]);have hki:(K:Int)<=4096:=(by omega);have hne:¬ (N:Int)=(K:Int):=(by omega);have hw:IntKind.i64.wrap ((K:Int)*2)=((K*2:Nat):Int):=(by rw [IntKind.wrap_i64];omega);clear hK hsu;go_wp2;go_roundw
    case rel=>exact ⟨s+1,hsm,by rw [hKe.out];simp,by trivial⟩
    case measure=>simp [intOf];omega
  · obtain rfl:s=m:=(by omega);rw [<- HN.out];have hki:(N:Int)<=4096:=(by omega);clear hsu;go_wp2;go_ret;exact ⟨rfl,rfl⟩
theorem rY(n:Nat)(h1:1<=n)(h2:n<=4096)(hlo:∀ s,s<lg n->2 ^ s<n)(w:World):Calls prog 159 #[.int .i64 (n:Int)] w fun e w'=>e=.returned (.int .i64 ((2 ^ lg n:Nat):Int))/\w'=w:=by
 have g1:¬ (n:Int)<1:=by omega
 have g2:¬ (4096:Int)<(n:Int):=by omega
 have hge:=qK h2;have hl:=yG h2;obtain ⟨L,hL⟩:=eE (lg n);rw [<- hL] at hlo hge hl ⊢;have HLO:=hide hlo;clear hL hlo;go_enter func159,ntmps159;go_wp2
 go_loopw [3] (fun k wr=>∃ s:Nat,s<=L/\k=.int .i64 ((2 ^ s:Nat):Int)/\wr=w) (fun k _=>4097 - (intOf k).toNat)
 case atStart=>exact ⟨0,Nat.zero_le _,rfl,rfl⟩
 case round =>
  obtain ⟨s,hs,rfl,rfl⟩:=hrel;have h0:=Nat.two_pow_pos s;have hsu:2 ^ (s+1)=2 ^ s*2:=Nat.pow_succ 2 s
  by_cases hsm:s<L
  · have hlt:=HLO.out s hsm;obtain ⟨K,hK⟩:=eE (2 ^ s);rw [<- hK] at h0 hlt ⊢;have hKe:Hid (2 ^ (s+1)=K*2):=hide (by rw [hsu,hK]);have hki:(K:Int)<(n:Int):=(by omega);have hw:IntKind.i64.wrap ((K:Int)*2)=((K*2:Nat):Int):=(by rw [IntKind.wrap_i64];omega);clear hK hsu;go_wp2;go_roundw
    case rel=>exact ⟨s+1,hsm,by rw [hKe.out];simp,by trivial⟩
    case measure=>simp [intOf];omega
  · obtain rfl:s=L:=(by omega);obtain ⟨K,hK⟩:=eE (2 ^ s);rw [<- hK] at hge ⊢;have hki:¬ (K:Int)<(n:Int):=(by omega);have HKK:=hide hK;clear hK hsu h0;go_wp2;go_ret;exact ⟨YU (by rw [HKK.out];simp),rfl⟩
theorem rT(m:Nat)(hm:m<=7)(w:World):Calls prog 158 #[.int .i64 ((2 ^ m:Nat):Int)] w fun e w'=>∃ v,e=.returned v/\w'.ownsRow w.heap.size 213 2 v (YZ m).length (Qt (YZ m))/\Below w.heap.size w w':=by
 have HIS:=hide (fun w=>bO m (by omega) w);have zwv:=TG (show m<=12 by omega);have gF:=hide (D8 hm);obtain ⟨N,hN⟩:=eE (2 ^ m);have HN:=hide hN;have hp0:=Nat.two_pow_pos m;rw [<- hN] at zwv HIS hp0 ⊢;clear hN;go_enter func158,ntmps158;go_wp2_with fail;refine (HIS.out w).mono ?_;rintro e w1 ⟨rfl,rfl⟩;clear HIS;go_wp2
 go_loopw [3,4] (fun o k wr=>∃ (s:Nat) (pre:List (Nat × Nat)),s<=m/\k=.int .i64 ((2 ^ (s+1):Nat):Int)/\Hid (pre++rounds N s (m - s)=YZ m)/\wr.ownsRow w1.heap.size 213 2 o pre.length (Qt pre)/\Below w1.heap.size w1 wr)
  (fun _ k _=>8193 - (intOf k).toNat)
 case atStart=>exact ⟨0,[],Nat.zero_le _,rfl,hide (by rw [HN.out];rfl),World.ownsRow_nil _ _ _ _,Below.refl _ _⟩
 case round =>
  obtain ⟨s,pre,hs,rfl,hpre,ZQ,hbr⟩:=hrel
  by_cases hsm:s<m
  · have hk1:2 ^ (s+1)<=N:=(by rw [HN.out];exact Nat.pow_le_pow_right (by omega) hsm);have hr:Hid (rounds N s (m - s)=merges N (2 ^ (s+1)) (s+1)++rounds N (s+1) (m - (s+1))):=by
     obtain ⟨r,hr⟩:∃ r,m - s=r+1:=⟨m - s - 1,by omega⟩;have e:m - (s+1)=r:=(by omega);rw [hr,e];exact rfl
    have hq2:(((2 ^ (s+1):Nat):Int)) / 2=((2 ^ (s+1) / 2:Nat):Int):=(by omega);obtain ⟨K,hK⟩:=eE (2 ^ (s+1));obtain ⟨j0,hj0⟩:=eE (2 ^ (s+1) / 2);have HK:=hide hK;have HJ0:=hide hj0;have hjK:j0<=K:=(by rw [hj0,hK];omega);rw [<- hj0,<- hK] at hq2;rw [<- hK] at hk1 hr ⊢;clear hK hj0;have hki:(K:Int)<=(N:Int):=(by omega);have dY:0<K:=(by rw [HK.out];exact Nat.two_pow_pos _);go_wp2
    go_loopw [3,5] (fun o j wm=>∃ (b jv:Nat) (Mk:List (Nat × Nat)),b<=s+1/\jv<=N/\j=.int .i64 (jv:Int)/\Hid (jv=2 ^ b / 2)/\Hid (Mk++(merges N K b++rounds N (s+1) (m - (s+1)))=YZ m)/\wm.ownsRow w1.heap.size 213 2 o Mk.length (Qt Mk)/\Below w1.heap.size w1 wm)
     (fun _ j _=>(intOf j).toNat)
    case atStart=>exact ⟨s+1,j0,pre,Nat.le_refl _,by omega,rfl,HJ0,hide (by rw [<- hr.out];exact hpre.out),ZQ,hbr⟩
    case round =>
     clear ZQ hbr hpre hq2 HJ0 hr;obtain ⟨b,jv,Mk,hb,hjN,rfl,iP,Ky,Zj,zwz⟩:=hrel;cases b with
     | zero =>
       have hz:jv=0:=iP.out;subst hz;clear iP;have hw:IntKind.i64.wrap ((K:Int)*2)=((K*2:Nat):Int):=(by rw [IntKind.wrap_i64];omega);go_wp2;go_roundw
       case rel =>
        refine ⟨s+1,Mk,hsm,?_,Ky,Zj,zwz⟩;rw [HK.out,Nat.pow_succ 2 (s+1)];simp
       case measure=>simp [intOf];omega
     | succ b =>
       have hjp:jv=2 ^ b:=(by rw [iP.out];exact zqs b);have hj1:0<jv:=(by rw [hjp];exact Nat.two_pow_pos b);have hji:(1:Int)<=(jv:Int):=(by omega);have HJP:=hide hjp;clear hjp iP;go_wp2
       go_loopw [3,6] (fun o i wi=>∃ (x:Nat) (Yc:List (Nat × Nat)),x<=N/\i=.int .i64 (x:Int)/\Hid (Yc++(((List.range N).drop x).filterMap (YH K jv)++(merges N K b++rounds N (s+1) (m - (s+1))))=YZ m)/\wi.ownsRow w1.heap.size 213 2 o Yc.length (Qt Yc)/\Below w1.heap.size w1 wi)
        (fun _ i _=>N - (intOf i).toNat)
       case atStart=>exact ⟨0,Mk,Nat.zero_le _,rfl,hide (by rw [<- Ky.out,List.drop_zero,merges,<- HJP.out,List.append_assoc (Jg N K jv)];rfl),Zj,zwz⟩
       case round =>
        clear Zj zwz Ky;obtain ⟨x,Yc,hx,rfl,Xd,ZM,vK⟩:=hrel
        by_cases hxN:x<N
        · have hxi:(x:Int)<(N:Int):=(by omega);have hdr:(List.range N).drop x=x::(List.range N).drop (x+1):=by
           rw [List.drop_eq_getElem_cons (by simpa using hxN)];simp
          rw [hdr] at Xd;have B1:=hide (fun w=>rP x jv (by omega) (by omega) hj1 w);have B2:=hide (fun w=>rP x K (by omega) (by omega) dY w);obtain ⟨c1,hc1⟩:=eE (decide (x / jv % 2=1));obtain ⟨c2,hc2⟩:=eE (decide (x / K % 2=1));rw [<- hc1] at B1;rw [<- hc2] at B2;go_wp2_with fail;refine (B1.out _).mono ?_;rintro e wz ⟨rfl,rfl⟩;dsimp only;clear B1;cases c1 with
          | true =>
            have e0:YH K jv x=none:=(by unfold YH;rw [if_pos (by simpa using hc1.symm)]);have Ma:Hid (Yc++(((List.range N).drop (x+1)).filterMap (YH K jv)++(merges N K b++rounds N (s+1) (m - (s+1))))=YZ m):=hide (by rw [<- Xd.out,List.filterMap_cons_none e0]);clear B2 hc1 hc2 hdr Xd e0;go_wp2;go_roundw
            case rel=>exact ⟨x+1,Yc,by omega,by go_num,Ma,ZM,vK⟩
            case measure=>simp [intOf];omega
          | false =>
            have hb1:¬ x / jv % 2=1:=(by simpa using hc1.symm);go_wp2_with fail;refine (B2.out _).mono ?_;rintro e wz ⟨rfl,rfl⟩;dsimp only;clear B2;cases c2 with
            | true =>
              have e0:YH K jv x=some (x+jv,x):=(by unfold YH;rw [if_neg hb1,if_pos (by simpa using hc2.symm)]);clear hc1 hc2 hb1;have hlen:Yc.length<(YZ m).length:=by
               have:=congrArg List.length Xd.out;rw [List.filterMap_cons_some e0] at this;simp at this;omega
              have d9:=Nat.lt_of_lt_of_le hlen gF.out;have Ma:Hid ((Yc++[((x+jv:Nat),(x:Nat))])++(((List.range N).drop (x+1)).filterMap (YH K jv)++(merges N K b++rounds N (s+1) (m - (s+1))))=YZ m):=hide (by rw [<- Xd.out,List.filterMap_cons_some e0];simp);obtain ⟨OA,oc,rfl,hoc⟩:=ZJ ZM;obtain ⟨i0,hi0,hz0,hz1,hz2⟩:=info_parts II;have hbz:=Z7 (Below.refl wz.heap.size wz) (.cells #[.int .i64 ((x+jv:Nat):Int),.int .i64 ((x:Nat):Int)] 213);have N6:=Z6.new wz 213 #[.int .i64 ((x+jv:Nat):Int),.int .i64 ((x:Nat):Int)];have Yo:=ZO ZM hbz;have hwx:=Z9 vK hbz;obtain ⟨g7,SC,w7,hrun,Yy,Yx,_,_⟩:=run_append_lies (P:=prog) (wz.alloc (.cells #[.int .i64 ((x+jv:Nat):Int),.int .i64 ((x:Nat):Int)] 213)) 211 211 w1.heap.size 213 i0 (.agg #[.int .i64 0,.int .i64 0]) 2 16 underlying211 hi0 hz0 hz1 hz2 rfl (by decide) _ Yc.length (Qt Yc) Yo ⟨wz.heap.size,0,none⟩ 1 1 [.int .i64 ((x+jv:Nat):Int),.int .i64 ((x:Nat):Int)] rfl (fun j u hu=>by rw [YS];exact N6.cell (by simpa using hu)) (by simp [Value.oneCell']) (by omega) (by unfold maxLen;omega) (by omega) hwx.size _ rfl;have hw7:Below w1.heap.size w1 w7:=hwx.grown Yx hwx.size (fun j hj=>ZP Yo hj);have tN:Hid (w7.ownsRow w1.heap.size 213 2 (.slice (some ⟨g7,0,none⟩) (Yc.length+1) SC) (Yc++[((x+jv:Nat),(x:Nat))]).length (Qt (Yc++[((x+jv:Nat),(x:Nat))]))):=hide (by rw [IU,List.length_append];exact Yy);have hxw:IntKind.i64.wrap ((x:Int)+(jv:Int))=((x+jv:Nat):Int):=(by rw [IntKind.wrap_i64];omega);clear Yy Yx N6 Yo hwx hbz hlen Xd hdr e0 ZM vK hi0 hz0 hz1 hz2;go_wp2_with (at_builtin;refine wpList_append_run (.tmp 33) (.tmp 39) 211 rfl rfl _ _ rfl rfl hrun ?_);clear hrun;go_wp2;go_roundw
              case rel=>exact ⟨x+1,Yc++[((x+jv:Nat),(x:Nat))],by omega,by go_num,Ma,tN.out,hw7⟩
              case measure=>simp [intOf];omega
            | false =>
              have e0:YH K jv x=some (x,x+jv):=(by unfold YH;rw [if_neg hb1,if_neg (by simpa using hc2.symm)]);clear hc1 hc2 hb1;have hlen:Yc.length<(YZ m).length:=by
               have:=congrArg List.length Xd.out;rw [List.filterMap_cons_some e0] at this;simp at this;omega
              have d9:=Nat.lt_of_lt_of_le hlen gF.out;have Ma:Hid ((Yc++[((x:Nat),(x+jv:Nat))])++(((List.range N).drop (x+1)).filterMap (YH K jv)++(merges N K b++rounds N (s+1) (m - (s+1))))=YZ m):=hide (by rw [<- Xd.out,List.filterMap_cons_some e0];simp);obtain ⟨OA,oc,rfl,hoc⟩:=ZJ ZM;obtain ⟨i0,hi0,hz0,hz1,hz2⟩:=info_parts II;have hbz:=Z7 (Below.refl wz.heap.size wz) (.cells #[.int .i64 ((x:Nat):Int),.int .i64 ((x+jv:Nat):Int)] 213);have N6:=Z6.new wz 213 #[.int .i64 ((x:Nat):Int),.int .i64 ((x+jv:Nat):Int)];have Yo:=ZO ZM hbz;have hwx:=Z9 vK hbz;obtain ⟨g7,SC,w7,hrun,Yy,Yx,_,_⟩:=run_append_lies (P:=prog) (wz.alloc (.cells #[.int .i64 ((x:Nat):Int),.int .i64 ((x+jv:Nat):Int)] 213)) 211 211 w1.heap.size 213 i0 (.agg #[.int .i64 0,.int .i64 0]) 2 16 underlying211 hi0 hz0 hz1 hz2 rfl (by decide) _ Yc.length (Qt Yc) Yo ⟨wz.heap.size,0,none⟩ 1 1 [.int .i64 ((x:Nat):Int),.int .i64 ((x+jv:Nat):Int)] rfl (fun j u hu=>by rw [YS];exact N6.cell (by simpa using hu)) (by simp [Value.oneCell']) (by omega) (by unfold maxLen;omega) (by omega) hwx.size _ rfl;have hw7:Below w1.heap.size w1 w7:=hwx.grown Yx hwx.size (fun j hj=>ZP Yo hj);have tN:Hid (w7.ownsRow w1.heap.size 213 2 (.slice (some ⟨g7,0,none⟩) (Yc.length+1) SC) (Yc++[((x:Nat),(x+jv:Nat))]).length (Qt (Yc++[((x:Nat),(x+jv:Nat))]))):=hide (by rw [IU,List.length_append];exact Yy);have hxw:IntKind.i64.wrap ((x:Int)+(jv:Int))=((x+jv:Nat):Int):=(by rw [IntKind.wrap_i64];omega);clear Yy Yx N6 Yo hwx hbz hlen Xd hdr e0 ZM vK hi0 hz0 hz1 hz2;go_wp2_with (at_builtin;refine wpList_append_run (.tmp 41) (.tmp 47) 211 rfl rfl _ _ rfl rfl hrun ?_);clear hrun;go_wp2;go_roundw
              case rel=>exact ⟨x+1,Yc++[((x:Nat),(x+jv:Nat))],by omega,by go_num,Ma,tN.out,hw7⟩
              case measure=>simp [intOf];omega
        · obtain rfl:x=N:=(by omega);have hxi:¬ (x:Int)<(x:Int):=(by omega);have Ma:Hid (Yc++(merges x K b++rounds x (s+1) (m - (s+1)))=YZ m):=hide (by rw [<- Xd.out,List.drop_of_length_le (by simp)];rfl);have hq:(jv:Int) / 2=((jv / 2:Nat):Int):=(by omega);obtain ⟨j2,hj2⟩:=eE (jv / 2);rw [<- hj2] at hq;have HJ2:Hid (j2=2 ^ b / 2):=hide (by rw [hj2,HJP.out]);have hlt:j2<jv:=(by omega);clear hj2 Xd;go_wp2;go_roundw
          case rel=>exact ⟨b,j2,Yc,by omega,by omega,rfl,HJ2,Ma,ZM,vK⟩
          case measure=>simp [intOf];omega
  · obtain rfl:s=m:=(by omega);have hNK:¬ (((2 ^ (s+1):Nat)):Int)<=(N:Int):=by
     have e:=HN.out;have e2:2 ^ (s+1)=2*2 ^ s:=(by rw [Nat.pow_succ,Nat.mul_comm]);omega
    have HP:Hid (pre=YZ s):=hide (by have:=hpre.out;rw [Nat.sub_self,rounds,List.append_nil] at this;exact this);obtain ⟨K,hK⟩:=eE (2 ^ (s+1));rw [<- hK] at hNK ⊢;clear hpre hK;rw [HP.out] at ZQ;go_wp2;go_ret;exact ⟨_,rfl,ZQ,hbr⟩
theorem zA(k:Nat):XT (k+1)=XT k++[(1,(k:Int),0)]:=by
 unfold XT;rw [List.range_succ,List.map_append];rfl
theorem QB(k:Nat):(XT k).length=k:=by unfold XT;rw [List.length_map,List.length_range]
theorem rR(n:Nat)(hn:n<=4096)(w:World):Calls prog 110 #[.int .i64 1,.int .i64 (n:Int)] w (dB (XT n) w):=by
 obtain ⟨i0,hi,hz0,hz1,hz2⟩:=info_parts V8;go_enter func110,ntmps110;go_wp2
 go_loopw [5,6] (fun o i wr=>∃ k:Nat,k<=n/\i=.int .i64 (k:Int)/\wr.ownsRow w.heap.size 66 3 o k (Y5 (XT k))/\Below w.heap.size w wr)
  (fun _ i _=>n - (intOf i).toNat)
 case atStart=>exact ⟨0,Nat.zero_le _,rfl,World.ownsRow_nil _ _ _ _,Below.refl _ _⟩
 case round =>
  obtain ⟨k,hk,rfl,ZQ,hbr⟩:=hrel;obtain ⟨OA,oc,rfl,hoc⟩:=ZJ ZQ
  by_cases hkn:k<n
  · have hki:(k:Int)<(n:Int):=(by omega);have hbz:=Z7 (Below.refl wr.heap.size wr) (.cells #[.int .i64 1,.int .i64 (k:Int),.int .i64 0] 66);have N6:=Z6.new wr 66 #[.int .i64 1,.int .i64 (k:Int),.int .i64 0];have Yo:=ZO ZQ hbz;have hwx:=Z9 hbr hbz;obtain ⟨g7,SC,w7,hrun,Yy,Yx,_,_⟩:=run_append_lies (P:=prog) (wr.alloc (.cells #[.int .i64 1,.int .i64 (k:Int),.int .i64 0] 66)) 27 27 w.heap.size 66 i0 (.agg #[.int .i64 0,.int .i64 0,.int .i64 0]) 3 24 underlying27 hi hz0 hz1 hz2 rfl (by decide) _ k (Y5 (XT k)) Yo ⟨wr.heap.size,0,none⟩ 1 1 [.int .i64 1,.int .i64 (k:Int),.int .i64 0] rfl (fun j u hu=>by rw [YS];exact N6.cell (by simpa using hu)) (by simp [Value.oneCell']) (by omega) (by unfold maxLen;omega) (by omega) hwx.size _ rfl;have hw7:Below w.heap.size w w7:=hwx.grown Yx hwx.size (fun j hj=>ZP Yo hj);have tN:Hid (w7.ownsRow w.heap.size 66 3 (.slice (some ⟨g7,0,none⟩) (k+1) SC) (k+1) (Y5 (XT (k+1)))):=hide (by rw [zA,Yb];exact Yy);clear Yy Yx N6 Yo hwx hbz ZQ hbr;go_wp2_with (at_builtin;refine wpList_append_run (.tmp 12) (.tmp 16) 27 rfl rfl _ _ rfl rfl hrun ?_);clear hrun;go_wp2;go_roundw
    case rel=>exact ⟨k+1,by omega,by go_num,tN.out,hw7⟩
    case measure=>simp [intOf];omega
  · obtain rfl:k=n:=(by omega);have hki:¬ (k:Int)<(k:Int):=(by omega);go_wp2;go_ret;exact ⟨_,rfl,by rw [QB];exact ZQ,hbr⟩
theorem aS{w:World}{base base':Nat}{e:TypeId}{size n:Nat}{v:Value}{xs:List Value}(h:w.ownsRow base e size v n xs)(hb:base'<=base):w.ownsRow base' e size v n xs :=
 ⟨h.1,h.2.imp id fun ⟨g,cap,cur,a,b,r⟩=>⟨g,cap,cur,a,Nat.le_trans hb b,r⟩⟩
theorem qL:∀ n:Fin 101,lg n.val<=7/\∀ s:Fin 8,s.val<lg n.val->2 ^ s.val<n.val:=by decide +kernel
theorem F4(cs:List (Nat × Nat))(c:Nat × Nat):Y3 (cs++[c])=Y3 cs++[(3,(c.1:Int),(c.2:Int))]:=by simp [Y3]
theorem SY(cs:List (Nat × Nat)):(Y3 cs).length=cs.length:=by simp [Y3]
theorem Ei:∀ (l:List (Nat × Nat)) (t:Nat) (c:Nat × Nat),l[t]?=some c->(Qt l)[t*2]?=some (.int .i64 (c.1:Int))/\(Qt l)[t*2+1]?=some (.int .i64 (c.2:Int))
 | [],t,c,h=>by simp at h
 | x::l,0,c,h=>by
   cases h;exact ⟨rfl,rfl⟩
 | x::l,t+1,c,h=>by
   have h2:=Ei l t c (by simpa using h);have e:Qt (x::l)=Value.int .i64 (x.1:Int)::Value.int .i64 (x.2:Int)::Qt l:=rfl;rw [e,show (t+1)*2=t*2+1+1 by omega];exact h2
theorem lq(n:Nat)(h1:1<=n)(h2:n<=100)(w:World):Calls prog 111 #[.int .i64 (n:Int)] w (dB (Y3 (YZ (lg n))) w):=by
 obtain ⟨hl7,hlo⟩:=qL ⟨n,by omega⟩;dsimp only at hl7 hlo;have Vu:=hide (rY n h1 (by omega) (fun s hs=>hlo ⟨s,by omega⟩ hs) w);have HCM:=hide (fun w=>rT (lg n) hl7 w);obtain ⟨m,hm⟩:=eE (lg n);rw [<- hm] at Vu HCM hl7 ⊢;have gF:=hide (D8 hl7);obtain ⟨P,hP⟩:=eE (2 ^ m);rw [<- hP] at Vu HCM;obtain ⟨C,hC⟩:=eE (YZ m);rw [<- hC] at HCM gF ⊢;clear hm hlo hP hC;obtain ⟨i0,hi,hz0,hz1,hz2⟩:=info_parts V8;go_enter func111,ntmps111;go_wp2_with fail;refine Vu.out.mono ?_;rintro e w0 ⟨rfl,rfl⟩;go_wp2_with fail;refine (HCM.out _).mono ?_;rintro e w1 ⟨v,rfl,hv,hb1⟩;obtain ⟨CA,cc,rfl,hcc⟩:=ZJ hv;have HSL:=hide (Sl.YI hv);clear hv Vu HCM;go_wp2
 go_loopw [3,5] (fun o i wr=>∃ k:Nat,k<=C.length/\i=.int .i64 (k:Int)/\wr.ownsRow w1.heap.size 66 3 o k (Y5 (Y3 (C.take k)))/\Below w1.heap.size w1 wr)
  (fun _ i _=>C.length - (intOf i).toNat)
 case atStart=>exact ⟨0,Nat.zero_le _,rfl,World.ownsRow_nil _ _ _ _,Below.refl _ _⟩
 case round =>
  obtain ⟨k,hk,rfl,ZQ,hbr⟩:=hrel;obtain ⟨OA,oc,rfl,hoc⟩:=ZJ ZQ
  by_cases hkn:k<C.length
  · have hki:(k:Int)<(C.length:Int):=(by omega);obtain ⟨c,hc⟩:∃ c,C[k]?=some c:=⟨_,List.getElem?_eq_getElem hkn⟩;obtain ⟨p0,p1⟩:=Ei C k c hc;have hcl:(Qt C).length=C.length*2:=YK (fun c:Nat × Nat=>[Value.int .i64 (c.1:Int),.int .i64 (c.2:Int)]) 2 (fun _=>rfl) C;obtain ⟨b,off,rfl,hb,zxa⟩:=(HSL.out.below hbr).open_ (by omega);have c0:=zxa _ _ p0;have c1:wr.cell? ⟨b,off+k*2+1,none⟩=some (.int .i64 (c.2:Int)):=zxa _ _ p1;have hbl:=Zv c0;have htk:Y3 (C.take (k+1))=Y3 (C.take k)++[(3,(c.1:Int),(c.2:Int))]:=(by rw [List.take_add_one,hc];exact F4 _ _);have G8:=hide htk;have hk2:=gF.out;obtain ⟨ca,cb⟩:=c;dsimp only at c0 c1 G8;clear p0 p1 zxa hc htk hcl;have hbs:=hbr.size;go_wp2
    go_region_law (first
     | (refine step_append_lies _ (by rfl) (.tmp 15) (.tmp 27) 27 (by rfl) w1.heap.size 66 i0 (.agg #[.int .i64 0,.int .i64 0,.int .i64 0]) 3 24 underlying27 hi hz0 hz1 hz2 (by rfl) (by decide) (.slice OA k oc) k _ (by rfl) (ZO ZQ (ZV (bA))) ⟨wr.heap.size,0,none⟩ 1 1 [.int .i64 3,.int .i64 (ca:Int),.int .i64 (cb:Int)] (by rfl) (by rfl) (ZI (Z6.new _ _ _).drew) (by simp [Value.oneCell']) (by omega) (by unfold maxLen;omega) (by omega) (by simp;omega) (wr.heap.size+1) (by simp) ?_;intro g' cap w7 Zn ZL hat hlt')
     | go_simp)
    all_goals
     have hq:Below w1.heap.size w1 w7:=(Z9 hbr (ZV (bA))).grown ZL (by simp;omega) (fun j hj=>ZP ZQ hj);go_wp2;go_roundw
     case rel=>exact ⟨k+1,by omega,by go_num,by rw [G8.out,Yb];exact Zn,hq⟩
     case measure=>simp [intOf];omega
  · obtain rfl:k=C.length:=(by omega);have hki:¬ (C.length:Int)<(C.length:Int):=(by omega);rw [List.take_length] at ZQ;go_wp2;go_ret;exact ⟨_,rfl,by rw [SY];exact aS ZQ hb1.size,Z9 hb1 hbr⟩
end
section
open Go.RowKit
theorem Kk:∀ (gs:List Gr) (hrs:List Rg) (i:Nat),gs.length=hrs.length->(∀ g∈gs,g.1.n=g.2.length)->(gs.zip hrs).any VL=false->(gs.zip hrs).any Wp=false->hrs.any Zq=false ->
 VY i gs=Xe i hrs/\Wu i gs=XH i hrs/\Y1 (gs.map (·.1))=0
 | [],[],_,_,_,_,_,_=>⟨rfl,rfl,rfl⟩
 | [],_::_,_,h,_,_,_,_=>by simp at h
 | _::_,[],_,h,_,_,_,_=>by simp at h
 | g::gs,r::hrs,i,hl,hn,hs,hk,hw=>by
   rw [List.zip_cons_cons,List.any_cons,Bool.or_eq_false_iff] at hs hk;rw [List.any_cons,Bool.or_eq_false_iff] at hw;obtain ⟨a1,a2,a3⟩:=Kk gs hrs (i+1) (by simpa using hl) (fun g' h=>hn g' (List.mem_cons_of_mem _ h)) hs.2 hk.2 hw.2;have hgn:=hn g (List.mem_cons_self ..);have h1:(g.1.n:Int)=ZN r.v:=(by have:=hs.1;unfold VL at this;simpa using this);have h2:g.1.v=r.v:=by
    have:=hk.1;unfold Wp at this;rw [Bool.or_eq_false_iff] at this;simpa using this.2
   have h3:ZN r.v≠0:=(by have:=hw.1;unfold Zq at this;simpa using this);have h4:TI g.1.v g.2.length=Ux r.v/\Sm g.1.v g.2.length=U8 r.v:=by
    rw [h2,<- hgn];unfold TI Ux Sm U8
    by_cases h0:r.v=0
    · rw [if_pos h0,if_pos h0,if_pos h0,if_pos h0];have:g.1.n=3:=(by rw [h0] at h1;have e:ZN 0=3:=rfl;omega);rw [this];exact ⟨rfl,rfl⟩
    · rw [if_neg h0,if_neg h0,if_neg h0,if_neg h0];have hsz:3<=r.v/\r.v<=64/\ZN r.v=r.v:=by
       unfold ZN at h3 ⊢;rw [if_neg h0] at h3 ⊢
       by_cases hb:3<=r.v/\r.v<=64
       · rw [if_pos hb];exact ⟨hb.1,hb.2,rfl⟩
       · rw [if_neg hb] at h3;exact absurd rfl h3
      have:g.1.n=r.v.toNat:=(by omega);rw [this];exact ⟨rfl,rfl⟩
   refine ⟨?_,?_,?_⟩
   · rw [VY,Xe,a1,h4.1]
   · rw [Wu,XH,a2,h4.2]
   · show Y1 (g.1::gs.map (·.1))=0;unfold Y1;rw [h2,if_neg h3,if_pos h1.symm];exact a3
def XV(rs:List Rg)(n:Nat):List Ev:=(List.range n).flatMap fun (i:Nat)=>(8,(i:Int),0)::XH 0 rs
def nY(rs:List Rg)(n:Nat):List Ev:=Xe 0 rs++XV rs n++XT n++Y3 (YZ (lg n))
def Sd(op vs:Int)(rs:List Rg)(Z0:Int):List Ev:=if op=5 then nY rs Z0.toNat else mG op vs rs
theorem Pf{rs:List Rg}(h:rs.any Zq=false):∀ r∈rs,r.v=0\/3<=r.v/\r.v<=64:=fun r hr=>by
 have hw:Zq r=false:=by
  rw [List.any_eq_false] at h;simpa using h r hr
 unfold Zq at hw;have hs0:ZN r.v≠0:=by simpa using hw
 unfold ZN at hs0
 by_cases h0:r.v=0
 · exact .inl h0
 · rw [if_neg h0] at hs0
   by_cases hb:3<=r.v/\r.v<=64
   · exact .inr hb
   · rw [if_neg hb] at hs0;exact absurd rfl hs0
theorem Jt{op vs Z0:Int}{hrs:List Rg}{gs:List Gr}{ps:List Pt}{qs:List ((Int × Int) × Int)}(hn:∀ g∈gs,g.1.n=g.2.length)(h:(ZG op vs hrs Z0 gs ps qs).2=0):
 Wh op vs hrs Z0 gs ps qs=Sd op vs hrs Z0:=by
 obtain ⟨hc,hgl,hpl,vR,hsz,hkd⟩:=Uw h;obtain ⟨o1,o5,c3,c4,c5,c6,c7,_⟩:=Zp hc;unfold Wh Sd;rw [if_neg (by simpa using h)]
 by_cases h5:op=5
 · rw [if_pos h5,if_pos h5];obtain ⟨hl1,zjy,hwr⟩:=c5 (by omega);obtain ⟨a1,a2,a3⟩:=Kk gs hrs 0 hgl hn hsz hkd hwr;have hf:Zk (gs.map (·.1))=0:=by
    unfold Zk;rw [if_neg (by rw [List.length_map];omega)];exact a3
   have hp:=c7 h5;have hq:(qs.length:Int)=Z0:=(by rw [vR];unfold WX;rw [if_neg (by omega)]);have hq2:Z0.toNat=qs.length:=(by omega);have hb:Yf gs qs.length=0:=by
    unfold Yf;rw [if_neg (by simpa using hf),if_neg (by omega)]
   unfold Xg nY XI XV Ze YC;rw [if_neg (by simpa using hb),if_pos hf,if_pos hf,a1,a2,hq2]
 · rw [if_neg h5,if_neg h5];unfold Ro mG
   by_cases h3:op=3
   · rw [if_pos h3,if_pos h3];have hv:=c3 h3;have hl:(ps.length:Int)=vs+1:=(by rw [h3] at hpl;exact hpl);have e:ps.length - 1=vs.toNat:=(by omega);rw [e];rfl
   · rw [if_neg h3,if_neg h3]
     by_cases h4:op=4
     · rw [if_pos h4,if_pos h4];obtain ⟨hl1,zjy,hwr⟩:=c5 (by omega);obtain ⟨a1,a2,a3⟩:=Kk gs hrs 0 hgl hn hsz hkd hwr;have hf:Zk (gs.map (·.1))=0:=by
        unfold Zk;rw [if_neg (by rw [List.length_map];omega)];exact a3
       unfold Oy Ze YC;rw [if_pos hf,if_pos hf,a1,a2]
     · rw [if_neg h4,if_neg h4]
theorem Tc{bs:List Int}(hby:By bs)(hc:Zb bs=0):
 XC bs=Sd (ZW bs).1.op (ZW bs).1.vs (ZW bs).1.rs (ZW bs).1.Z0/\ZT (ZW bs).1.op (ZW bs).1.vs (ZW bs).1.rs (ZW bs).1.Z0=0/\((Zz bs).1.qs.length:Int)=WX (ZW bs).1.op (ZW bs).1.Z0:=by
 have hd:Zz bs=(Uc (ZW bs).1 (bs.drop (ZW bs).2.1.toNat),0):=by unfold Zz;rw [if_pos hc]
 obtain ⟨q,hq⟩:=eE (Uc (ZW bs).1 (bs.drop (ZW bs).2.1.toNat));have hh:q.h=(ZW bs).1:=by rw [hq];rfl
 rw [<- hq] at hd;rw [<- hh];obtain ⟨_,vg,_,z⟩:=Tz hby hd
 have hn:∀ g∈q.gs.map cg,g.1.n=g.2.length:=fun g hg=>by
  obtain ⟨x,_,rfl⟩:=List.mem_map.1 hg;rfl
 have he:=LB hby hd (hrs:=q.h.rs) (gs:=q.gs.map cg) rfl (FJ _) hn;obtain ⟨_,k2,k3,k4⟩:=QG (q:=q) (by rw [he]) hn (fun x hx=>(vg x hx).2) rfl (FJ _).symm rfl rfl;have hk:=Jt hn (by rw [he]:(ZG q.h.op q.h.vs q.h.rs q.h.Z0 (q.gs.map cg) q.ps q.qs).2=0);refine ⟨?_,z,?_⟩
 · unfold XC;rw [hd,if_neg (by simp),<- k2,hk]
 · rw [hd];exact (Uw (by rw [he]:(ZG q.h.op q.h.vs q.h.rs q.h.Z0 (q.gs.map cg) q.ps q.qs).2=0)).2.2.2.1
theorem Nk{bs:List Int}(hc:Zb bs≠0):XC bs=[]:=by
 have hd:Zz bs=(Yk,Zb bs):=by unfold Zz;rw [if_neg hc]
 unfold XC;rw [hd,if_pos hc]
theorem Dp(x nx:Nat):∀ k,PG x nx k=(List.range k).flatMap fun j=>if j=x\/j=nx then [] else [(4,(x:Int),(j:Int))]
 | 0=>rfl
 | k+1=>by
   rw [List.range_succ,List.flatMap_append,<- Dp x nx k]
   by_cases h:k=x\/k=nx
   · rw [Ov h];simp [h]
   · rw [Kj (fun e=>h (.inl e)) (fun e=>h (.inr e))];simp [h]
theorem sP(n:Nat):UQ n (List.range n)=(List.range n).flatMap fun i=>(List.range n).flatMap (sV n i):=by
 unfold UQ;have:(fun x=>PG x ((x+1) % n) n)=fun i=>(List.range n).flatMap (sV n i):=by
  funext x;exact Dp x ((x+1) % n) n
 rw [this]
theorem AU(n:Nat):YG (List.range n)=(List.range n).flatMap fun (i:Nat)=>[(5,(i:Int),0)]:=by
 unfold YG;rw [List.map_eq_flatMap]
theorem zy(n:Nat):XT n=(List.range n).flatMap fun (i:Nat)=>[(1,(i:Int),0)]:=by
 unfold XT;rw [List.map_eq_flatMap]
theorem Jh{rs:List Rg}{k:Nat}{r:Rg}(h:rs[k]?=some r):rs.take (k+1)=rs.take k++[r]:=by
 rw [List.take_add_one,h];rfl
theorem vU(rs:List Rg):Xe 0 rs=(List.range rs.length).flatMap fun (i:Nat)=>(7,(i:Int),0)::Ux (xE rs i):=by
 have key:∀ k,k<=rs.length->Xe 0 (rs.take k)=(List.range k).flatMap fun (i:Nat)=>(7,(i:Int),0)::Ux (xE rs i):=by
  intro k
  induction k with
  | zero=>intro _;rfl
  | succ k ih =>
    intro hk;obtain ⟨r,hr⟩:∃ r,rs[k]?=some r:=⟨_,List.getElem?_eq_getElem (by omega)⟩;rw [Jh hr,NP,ih (by omega),List.range_succ,List.flatMap_append,List.length_take,Nat.min_eq_left (by omega),<- GV hr];simp
 have h:=key rs.length (Nat.le_refl _);rwa [List.take_length] at h
theorem vN(rs:List Rg):XH 0 rs=(List.range rs.length).flatMap fun (i:Nat)=>(7,(i:Int),1)::U8 (xE rs i):=by
 have key:∀ k,k<=rs.length->XH 0 (rs.take k)=(List.range k).flatMap fun (i:Nat)=>(7,(i:Int),1)::U8 (xE rs i):=by
  intro k
  induction k with
  | zero=>intro _;rfl
  | succ k ih =>
    intro hk;obtain ⟨r,hr⟩:∃ r,rs[k]?=some r:=⟨_,List.getElem?_eq_getElem (by omega)⟩;rw [Jh hr,NJ,ih (by omega),List.range_succ,List.flatMap_append,List.length_take,Nat.min_eq_left (by omega),<- GV hr];simp
 have h:=key rs.length (Nat.le_refl _);rwa [List.take_length] at h
theorem nW{v:Nat}(h:3<=v/\v<=64):ZA v=v:=by unfold ZA;rw [if_pos h]
theorem IQ{n:Nat}(h:3<=n/\n<=64):UQ n (List.range (ZA n))=((List.range n).flatMap fun i=>(List.range n).flatMap (sV n i))/\YG (List.range (ZA n))=(List.range n).flatMap fun (i:Nat)=>[(5,(i:Int),0)]:=by
 rw [nW h];exact ⟨sP n,AU n⟩
theorem fD{v:Int}(h:v=0\/3<=v/\v<=64):Ux v=rE false v/\U8 v=rE true v:=by
 unfold Ux U8 rE;rcases h with rfl|h
 · exact ⟨rfl,rfl⟩
 · have h0:¬ v=0:=(by omega);rw [if_neg h0,if_neg h0,if_neg h0,if_neg h0];exact IQ (by omega)
theorem I5{rs:List Rg}(hok:∀ r∈rs,r.v=0\/3<=r.v/\r.v<=64):Xe 0 rs=(List.range rs.length).flatMap (Fe false rs)/\XH 0 rs=(List.range rs.length).flatMap (Fe true rs):=by
 rw [vU,vN];have e1:(fun (i:Nat)=>((7,(i:Int),0):Ev)::Ux (xE rs i))=Fe false rs:=by
  funext i;unfold Fe;rw [(fD (sO hok i)).1];rfl
 have e2:(fun (i:Nat)=>((7,(i:Int),1):Ev)::U8 (xE rs i))=Fe true rs:=by
  funext i;unfold Fe;rw [(fD (sO hok i)).2];rfl
 rw [e1,e2];exact ⟨rfl,rfl⟩
end
section
open Go.RowKit Go.Shelf
theorem GL{P:Program}{w:World}{a:Addr}{m:Mode}(f:Fn)(cs lb:Array Value):(store a (.func f cs lb) m).run P w=stored P w a (.func f cs lb) m:=run_store P w a _ m rfl
attribute [local go_sem] GL
theorem vC(i:Nat)(W:World):Calls prog 76 #[.int .i64 (i:Int)] W (Zm (fun _=>False) [(1,(i:Int),0)] W):=by
 have HO:=hide (OQ 1 (i:Int) 0 W (by unfold Yu;omega));go_enter func76,ntmps76;go_wp2_with fail;refine HO.out.mono ?_;rintro e w' ⟨fv,K,rfl,h⟩;have H:=hide h;clear h;go_wp2;go_ret;exact ⟨fv,K,rfl,H.out⟩
section
variable (op vs Z0:Int)(rs:List Rg)(HA:Option Addr)(hc:Nat)(P:Nat->Prop)(w:World)
variable (hP:∀ k,P k->k<w.heap.size)(hs:U2 w P HA (rgCells rs))(hlen:rs.length<=1000)(hok:∀ r∈rs,r.v=0\/3<=r.v/\r.v<=64)
include hP hs hlen hok
theorem zO:Calls prog 37 #[.agg #[.int .i64 4,.int .i64 vs,.slice HA rs.length hc,.int .i64 Z0]] w (Zm P ((List.range rs.length).flatMap (Fe false rs)++(List.range rs.length).flatMap (Fe true rs)) w):=by
 obtain ⟨w0,hw0⟩:=eE (w.alloc (.cells #[.int .i64 4,.int .i64 vs,.slice HA rs.length hc,.int .i64 Z0] 24));have hb0:=bE hw0;have N0:Z6 w0 w.heap.size 24 #[.int .i64 4,.int .i64 vs,.slice HA rs.length hc,.int .i64 Z0]:=by rw [hw0];exact Z6.new _ _ _
 have c0:=N0.q0 rfl;have h00:Sc w0 w.heap.size (.int .i64 vs) (.slice HA rs.length hc) (.int .i64 Z0) w0:=⟨Below.refl _ _,N0.q1 rfl,N0.q2 rfl,N0.q3 rfl⟩;have hd0:=h00.keep (ZV (Below.refl _ _));have Sg:∀ k,P k->k<w0.heap.size:=fun k hk=>Nat.lt_of_lt_of_le (hP k hk) hb0.size;have HR:=hide (fun (loc:Bool) (w':World) (hb:Below w0.heap.size w0 w')=>Pm P rs HA hc loc w' hlen hok (fun k hk=>Nat.lt_of_lt_of_le (Sg k hk) hb.size) (hs.kept ((Z8.of_below hb0 hP).trans (Z8.of_below hb Sg))));have HF:=hide (HR.out false);have HT:=hide (HR.out true);obtain ⟨e1,he1⟩:=eE ((List.range rs.length).flatMap (Fe false rs));obtain ⟨e2,he2⟩:=eE ((List.range rs.length).flatMap (Fe true rs));rw [<- he1,<- he2];rw [<- he1] at HF;rw [<- he2] at HT;have HD:Hid (Below w0.heap.size w0 w0.drew):=hide (ZV (Below.refl _ _))
 have HJ:Hid (∀ (w1:World) (g1:Nat) (l1:Array Value) (K1:Nat->Prop) (w2:World) (g2:Nat) (l2:Array Value) (K2:Nat->Prop),Below w0.drew.heap.size w0.drew w1->(∀ k,K1 k->P k\/w0.drew.heap.size<=k/\k<w1.heap.size)->XR K1 (.func (.func g1) #[] l1) e1 w1 ->
  Below w1.heap.size w1 w2->(∀ k,K2 k->P k\/w1.heap.size<=k/\k<w2.heap.size)->XR K2 (.func (.func g2) #[] l2) e2 w2 ->
  Calls prog 69 #[.slice (some ⟨w2.heap.size,0,none⟩) 2 2] (w2.alloc (.cells #[.func (.func g1) #[] l1,.func (.func g2) #[] l2] 68)) (fun e w'=>Zm P (e1++e2) w e w'/\Below (w2.alloc (.cells #[.func (.func g1) #[] l1,.func (.func g2) #[] l2] 68)).heap.size (w2.alloc (.cells #[.func (.func g1) #[] l1,.func (.func g2) #[] l2] 68)) w')):=hide fun w1 g1 l1 K1 w2 g2 l2 K2 a1 a2 a3 a4 a5 a6 =>
  (FT (Kp:=P) (w0:=w0.drew) Sg a1 a2 a3 a4 (fun k h=>(a5 k h).imp id fun h=>⟨Nat.le_trans a1.size h.1,h.2⟩) a6).mono fun e w' h=>⟨h.1.Co.back hb0 fun k h=>.inl h,h.2⟩
 have HSt:Hid (∀ w1,Below w0.drew.heap.size w0.drew w1->Below w0.heap.size w0 w1):=hide fun w1 h=>XG h;clear N0 he1 he2 hb0 Sg hP hs hlen hok HR;rw [hw0] at c0;go_enter func37,ntmps37;go_wp2;rw [<- hw0];clear c0 hw0
 go_region_held3 (fun w'=>Below w0.heap.size w0 w'/\w'.cell? ⟨w.heap.size,1,none⟩=some (.int .i64 vs)/\w'.cell? ⟨w.heap.size,2,none⟩=some (.slice HA rs.length hc)/\w'.cell? ⟨w.heap.size,3,none⟩=some (.int .i64 Z0))
  (first|exact hd0|exact h00|exact Sc.keep (by assumption) (by assumption)|exact Sc.keep (by assumption) (bA)|exact hd0.keep (by assumption))
  (first
    | (go_at_call 72;((with_reducible refine (HF.out _ HD.out).mono ?_);intro e w1 k1;obtain ⟨g1,l1,K1,rfl,a1,a2,a3⟩:=k1.open_))
    | (go_at_call 72;((with_reducible refine (HT.out w1 (HSt.out w1 a1)).mono ?_);intro e w2 k2;obtain ⟨g2,l2,K2,rfl,a4,a5,a6⟩:=k2.open_))
    | (go_at_call 69;((with_reducible refine (HJ.out w1 g1 l1 K1 w2 g2 l2 K2 a1 a2 a3 a4 a5 a6).mono ?_);rintro e w' ⟨⟨fv,K,rfl,hh⟩,hb2⟩)))
 all_goals
  have H:=hide hh;clear hh k1 k2 a1 a2 a3 a4 a5 a6;go_wp2;go_ret;exact ⟨fv,K,rfl,H.out⟩
theorem zP(n:Nat)(h1:1<=n)(h2:n<=4096):Calls prog 37 #[.agg #[.int .i64 5,.int .i64 vs,.slice HA rs.length hc,.int .i64 (n:Int)]] w (Zm P ((List.range rs.length).flatMap (Fe false rs)++(((List.range n).flatMap fun (i:Nat)=>(8,(i:Int),0)::(List.range rs.length).flatMap (Fe true rs))++(((List.range n).flatMap fun (i:Nat)=>[(1,(i:Int),0)])++(Y3 (YZ (lg n))++[])))) w):=by
 obtain ⟨w0,hw0⟩:=eE (w.alloc (.cells #[.int .i64 5,.int .i64 vs,.slice HA rs.length hc,.int .i64 (n:Int)] 24));have hb0:=bE hw0;have N0:Z6 w0 w.heap.size 24 #[.int .i64 5,.int .i64 vs,.slice HA rs.length hc,.int .i64 (n:Int)]:=by rw [hw0];exact Z6.new _ _ _
 have c0:=N0.q0 rfl;have c2:=N0.q2 rfl;have Sg:∀ k,P k->k<w0.heap.size:=fun k hk=>Nat.lt_of_lt_of_le (hP k hk) hb0.size;have HR:=hide (fun (loc:Bool) (w':World) (hb:Below w0.heap.size w0 w')=>Pm P rs HA hc loc w' hlen hok (fun k hk=>Nat.lt_of_lt_of_le (Sg k hk) hb.size) (hs.kept ((Z8.of_below hb0 hP).trans (Z8.of_below hb Sg))));have HF:=hide (HR.out false);have HT:=hide (HR.out true w0 (Below.refl _ _));have G6:=hide (fun w=>Cj n w h1 h2);obtain ⟨e1,he1⟩:=eE ((List.range rs.length).flatMap (Fe false rs));obtain ⟨e2,he2⟩:=eE ((List.range rs.length).flatMap (Fe true rs));rw [<- he1,<- he2];rw [<- he1] at HF;rw [<- he2] at HT;obtain ⟨e3,he3⟩:=eE ((List.range n).flatMap fun (i:Nat)=>((8,(i:Int),0):Ev)::e2);obtain ⟨e4,he4⟩:=eE ((List.range n).flatMap fun (i:Nat)=>[((1,(i:Int),0):Ev)]);obtain ⟨e5,he5⟩:=eE (Y3 (YZ (lg n)));rw [<- he3,<- he4,<- he5];rw [<- he5] at G6;have HD3:=hide he3;have HD4:=hide he4;clear he3 he4 he5;have uG:=hide Sg;have HB0:=hide hb0;have H2:=hide h2;have HN:=hide N0;clear N0 he1 he2 hb0 Sg hP hs hlen hok HR h2;rw [hw0] at c0 c2 HT;go_enter func37,ntmps37;go_wp2_with fail;refine HT.out.mono ?_;rw [<- hw0];intro e w1 k1;obtain ⟨gm,lm,Km,rfl,a1,a2,a3⟩:=k1.open_;have HHw:=hide hw0;clear c0 c2 hw0 HT k1;obtain ⟨w2,hw2⟩:=eE (w1.alloc (.cells #[.func (.func gm) #[] lm] 68));have hb2:=bE hw2;have hz2:w2.heap.size=w1.heap.size+1:=by rw [hw2];simp
 have N2:Z6 w2 w1.heap.size 68 #[.func (.func gm) #[] lm]:=by rw [hw2];exact Z6.new _ _ _
 have Np:Hid (∀ k,Km k->k<w1.heap.size):=hide fun k hk=>by
  rcases a2 k hk with h|h
  · have:=uG.out k h;have:=a1.size;omega
  · exact h.2
 have zof:XR Km (.func (.func gm) #[] lm) e2 w2:=a3.kept (Z8.of_below hb2 Np.out)
 have RI:=Vl (fun k=>Km k\/k=w1.heap.size) (fun (i:Nat)=>(8,(i:Int),0)::e2) n 74 #[.pointer (some ⟨w1.heap.size,0,none⟩)] w2 (fun k hk=>by rcases hk with hk|hk;have:=Np.out k hk;omega;omega) (by have:=H2.out;omega) (enters_of func74 (by kernel_rfl) rfl)
  (fun i _ X hX=>(vB i w1.heap.size gm lm Km e2 X (fun k hk=>by have:=Np.out k hk;have:=hX.size;omega) (zof.kept (hX.mono fun k h=>.inl h)) (N2.kept hX (.inr rfl))).mono fun e w' h=>h.mono fun k hk=>.inl hk)
 rw [<- HD3.out] at RI;have HRI:=hide RI;have HB2:=hide (Z9 a1 hb2);have m2:=(HN.out.step a1).step hb2;have d3:=m2.q3 rfl;have ze:=hide m2
 have HKm:Hid (∀ k,Km k\/k=w1.heap.size->P k\/w0.heap.size<=k/\k<w2.heap.size):=hide fun k hk=>by
  have z1:=a1.size;rcases hk with hk|hk
  · rcases a2 k hk with h|h
    · exact .inl h
    · exact .inr (by omega)
  · exact .inr (by omega)
 clear a1 a2 a3 hb2 hz2 N2 zof RI m2 HN;rw [hw2] at d3 HRI;go_wp2_with fail;refine HRI.out.mono ?_;rw [<- hw2];intro e w3 k3;obtain ⟨g3,l3,K3,rfl,b1,b2,b3⟩:=k3.open_;have HB3:=hide (Z9 HB2.out b1);have m3:=ze.out.step b1;have d3:=m3.q3 rfl;have HM3:=hide m3
 have HK3:Hid (∀ k,K3 k->P k\/w0.heap.size<=k/\k<w3.heap.size):=hide fun k hk=>by
  have z1:=b1.size;have z2:=HB2.out.size;rcases b2 k hk with h|h
  · rcases HKm.out k h with h|h
    · exact .inl h
    · exact .inr (by omega)
  · exact .inr (by omega)
 have HE3:=hide b3;have R4:=(Vl (fun _=>False) (fun (i:Nat)=>[(1,(i:Int),0)]) n 76 #[] w3 (fun k hk=>hk.elim) (by have:=H2.out;omega) (enters_of func76 (by kernel_rfl) rfl) (fun i _ X _=>vC i X));rw [<- HD4.out] at R4;have R4:=hide R4;clear hw2 k3 b1 b2 b3 m3 HRI ze;go_wp2_with fail;refine R4.out.mono ?_;intro e w4 k4;obtain ⟨g4,l4,K4,rfl,b1,b2,b3⟩:=k4.open_;have Qv:=hide (Z9 HB3.out b1);have m4:=HM3.out.step b1;have h00:Sc w4 w.heap.size (.int .i64 vs) (.slice HA rs.length hc) (.int .i64 (n:Int)) w4:=⟨Below.refl _ _,m4.q1 rfl,m4.q2 rfl,m4.q3 rfl⟩;have hd0:=h00.keep (ZV (Below.refl _ _));have HE4:=hide b3
 have zio:Hid (XR K3 (.func (.func g3) #[] l3) e3 w4):=hide (HE3.out.kept (Z8.of_below b1 fun k hk=>by
  rcases HK3.out k hk with h|h
  · have:=uG.out k h;have:=HB3.out.size;omega
  · omega))
 have zms:Hid (∀ k,K3 k\/K4 k->P k\/w0.heap.size<=k/\k<w4.heap.size):=hide fun k hk=>by
  have z1:=b1.size;have z2:=HB3.out.size;rcases hk with hk|hk
  · rcases HK3.out k hk with h|h
    · exact .inl h
    · exact .inr (by omega)
  · rcases b2 k hk with h|h
    · exact h.elim
    · exact .inr (by omega)
 have HD:Hid (Below w0.heap.size w0 w4.drew):=hide (ZV Qv.out)
 have HJ:Hid (∀ (w5:World) (g5:Nat) (l5:Array Value) (K5:Nat->Prop) (w6:World) (g6:Nat) (l6:Array Value) (K6:Nat->Prop),Below w4.drew.heap.size w4.drew w5->(∀ k,K5 k->P k\/w4.drew.heap.size<=k/\k<w5.heap.size)->XR K5 (.func (.func g5) #[] l5) e1 w5 ->
  Below w5.heap.size w5 w6->(∀ k,K6 k->False\/w5.heap.size<=k/\k<w6.heap.size)->XR K6 (.func (.func g6) #[] l6) e5 w6 ->
  Calls prog 69 #[.slice (some ⟨w6.heap.size,0,none⟩) 4 4] (w6.alloc (.cells #[.func (.func g5) #[] l5,.func (.func g3) #[] l3,.func (.func g4) #[] l4,.func (.func g6) #[] l6] 68)) (fun e w'=>Zm P (e1++(e3++(e4++(e5++[])))) w e w'/\Below (w6.alloc (.cells #[.func (.func g5) #[] l5,.func (.func g3) #[] l3,.func (.func g4) #[] l4,.func (.func g6) #[] l6] 68)).heap.size (w6.alloc (.cells #[.func (.func g5) #[] l5,.func (.func g3) #[] l3,.func (.func g4) #[] l4,.func (.func g6) #[] l6] 68)) w')):=hide fun w5 g5 l5 K5 w6 g6 l6 K6 a1 a2 a3 a4 a5 a6=>by
  have z4:w4.drew.heap.size=w4.heap.size:=rfl;have z5:=a1.size;have z6:=a4.size;have z04:=Qv.out.size;have hb6:Below w4.heap.size w4 w6:=Z9 (XG a1) a4
  have k34:∀ k,K3 k\/K4 k->k<w4.heap.size:=fun k hk=>by
   rcases zms.out k hk with h|h
   · have:=uG.out k h;omega
   · omega
  have k5:∀ k,K5 k->k<w5.heap.size:=fun k hk=>by
   rcases a2 k hk with h|h
   · have:=uG.out k h;omega
   · omega
  refine (zqm (fun k=>K5 k\/(K3 k\/K4 k)\/K6 k) [(.func (.func g5) #[] l5,e1),(.func (.func g3) #[] l3,e3),(.func (.func g4) #[] l4,e4),(.func (.func g6) #[] l6,e5)] (e1++(e3++(e4++(e5++[])))) w6 4 _ rfl (by decide) rfl (by simp) ?_ ?_).mono fun e w' h=>⟨h.1.back (Z9 HB0.out (Z9 Qv.out hb6)) ?_,h.2⟩
  · rintro k (hk|hk|hk)
    · have:=k5 k hk;omega
    · have:=k34 k hk;omega
    · rcases a5 k hk with h|h
      · exact h.elim
      · omega
  · intro p hp;rcases List.mem_cons.1 hp with rfl|hp
    · exact (a3.kept (Z8.of_below a4 k5)).mono fun k h=>.inl h
    · rcases List.mem_cons.1 hp with rfl|hp
      · exact (zio.out.kept (Z8.of_below hb6 fun k h=>k34 k (.inl h))).mono fun k h=>.inr (.inl (.inl h))
      · rcases List.mem_cons.1 hp with rfl|hp
        · exact (HE4.out.kept (Z8.of_below hb6 fun k h=>k34 k (.inr h))).mono fun k h=>.inr (.inl (.inr h))
        · rw [List.mem_singleton] at hp;subst hp;exact a6.mono fun k h=>.inr (.inr h)
  · have z0:=HB0.out.size;rintro k (hk|hk|hk)
    · rcases a2 k hk with h|h
      · exact .inl h
      · exact .inr (by omega)
    · rcases zms.out k hk with h|h
      · exact .inl h
      · exact .inr (by omega)
    · rcases a5 k hk with h|h
      · exact h.elim
      · exact .inr (by omega)
 clear k4 b1 b2 b3 m4 d3 R4 HM3 HKm;go_wp2
 go_region_held3 (fun w'=>Below w4.heap.size w4 w'/\w'.cell? ⟨w.heap.size,1,none⟩=some (.int .i64 vs)/\w'.cell? ⟨w.heap.size,2,none⟩=some (.slice HA rs.length hc)/\w'.cell? ⟨w.heap.size,3,none⟩=some (.int .i64 (n:Int)))
  (first|exact hd0|exact h00|exact Sc.keep (by assumption) (by assumption)|exact Sc.keep (by assumption) (bA)|exact hd0.keep (by assumption))
  (first
    | (go_at_call 72;((with_reducible refine (HF.out _ HD.out).mono ?_);intro e w5 k5;obtain ⟨g5,l5,K5,rfl,a1,a2,a3⟩:=k5.open_))
    | (go_at_call 77;((with_reducible refine (G6.out _).mono ?_);intro e w6 k6;obtain ⟨g6,l6,K6,rfl,a4,a5,a6⟩:=k6.open_))
    | (go_at_call 69;((with_reducible refine (HJ.out w5 g5 l5 K5 w6 g6 l6 K6 a1 a2 a3 a4 a5 a6).mono ?_);rintro e w' ⟨⟨fv,K,rfl,hh⟩,hb2⟩)))
 all_goals
  have H:=hide hh;clear hh k5 k6 a1 a2 a3 a4 a5 a6;go_wp2;go_ret;exact ⟨fv,K,rfl,H.out⟩
end
end
section
open Go.RowKit Go.Shelf
theorem FE(op vs Z0:Int)(rs:List Rg)(HA:Option Addr)(hc:Nat)(P:Nat->Prop)(w:World)(hP:∀ k,P k->k<w.heap.size)(hs:U2 w P HA (rgCells rs))(hz:ZT op vs rs Z0=0):
 Calls prog 37 #[.agg #[.int .i64 op,.int .i64 vs,.slice HA rs.length hc,.int .i64 Z0]] w (Zm P (Sd op vs rs Z0) w):=by
 obtain ⟨o1,o2,c3,c4,c5,c6,c7,_⟩:=Zp hz;unfold Sd
 by_cases h5:op=5
 · subst h5;rw [if_pos rfl];obtain ⟨l1,aO,hwr⟩:=c5 (by omega);obtain ⟨p1,p2⟩:=c7 rfl;obtain ⟨n,rfl⟩:∃ n:Nat,Z0=(n:Int):=⟨Z0.toNat,by omega⟩;have hok:=Pf hwr;have h:=zP vs rs HA hc P w hP hs (by omega) hok n (by omega) (by omega);obtain ⟨r1,r2⟩:=I5 hok;rw [<- r1,<- r2,<- zy] at h;have e:nY rs (n:Int).toNat=Xe 0 rs++(((List.range n).flatMap fun (i:Nat)=>(8,(i:Int),0)::XH 0 rs)++(XT n++(Y3 (YZ (lg n))++[]))):=by
    unfold nY XV;rw [Int.toNat_natCast,List.append_nil,List.append_assoc,List.append_assoc]
   rw [e];exact h
 · rw [if_neg h5];unfold mG
   by_cases h3:op=3
   · subst h3;rw [if_pos rfl];obtain ⟨v1,v2⟩:=c3 rfl;obtain ⟨n,rfl⟩:∃ n:Nat,vs=(n:Int):=⟨vs.toNat,by omega⟩;obtain ⟨r1,r2⟩:=IQ (n:=n) (by omega);rw [Int.toNat_natCast,r1,r2];exact zN Z0 rs HA hc P w n (by omega) (by omega)
   · rw [if_neg h3]
     by_cases h4:op=4
     · subst h4;rw [if_pos rfl];obtain ⟨l1,aO,hwr⟩:=c5 (by omega);have hok:=Pf hwr;obtain ⟨r1,r2⟩:=I5 hok;rw [r1,r2];exact zO vs Z0 rs HA hc P w hP hs (by omega) hok
     · rw [if_neg h4];exact Kl op vs Z0 rs HA hc P w h3 h4 h5
theorem GR(K:Nat->Prop)(fv:Value)(es:List Ev)(w:World)(hK:∀ k,K k->k<w.heap.size)(hev:XR K fv es w)(hlen:es.length<=2000000):
 Calls prog 36 #[fv] w fun e w'=>∃ v,e=.returned v/\w'.ownsRow w.heap.size 66 3 v es.length (Y5 es)/\Below w.heap.size w w':=by
 have HA:=hide (Jm K fv es w hK hev hlen);clear hK hev;go_enter func36,ntmps36;go_wp2_with fail;refine HA.out.mono ?_;rintro e w' ⟨v,rfl,h1,h2⟩;have H1:=hide h1;have H2:=hide h2;clear h1 h2 HA;go_wp2;go_ret;exact ⟨v,rfl,H1.out,H2.out⟩
def Lg(op vs:Int)(rs:List Rg)(Z0:Int):List Ev:=if ZT op vs rs Z0=0 then Sd op vs rs Z0 else []
section
variable (op vs Z0:Int)(rs:List Rg)(HA:Option Addr)(hc:Nat)(w:World)(hs:Sl w w.heap.size HA (rgCells rs))(hn:rs.length<=maxLen)(hlen:(Lg op vs rs Z0).length<=2000000)
include hs hn hlen
theorem Qm:Calls prog 12 #[.agg #[.int .i64 op,.int .i64 vs,.slice HA rs.length hc,.int .i64 Z0]] w fun e w' =>
 ∃ v,e=.returned (.tuple #[v,.int .i64 (ZT op vs rs Z0)])/\w'.ownsRow w.heap.size 66 3 v (Lg op vs rs Z0).length (Y5 (Lg op vs rs Z0))/\Below w.heap.size w w':=by
 obtain ⟨w0,hw0⟩:=eE (w.alloc (.cells #[.int .i64 op,.int .i64 vs,.slice HA rs.length hc,.int .i64 Z0] 24));have hb0:=bE hw0;have N0:Z6 w0 w.heap.size 24 #[.int .i64 op,.int .i64 vs,.slice HA rs.length hc,.int .i64 Z0]:=by rw [hw0];exact Z6.new _ _ _
 have HFM:=hide (SH vs rs HA hc Z0 w0 ((hs.below hb0).more hb0.size) hn op);have b0:=N0.q0 rfl;have b1:=N0.q1 rfl;have b2:=N0.q2 rfl;have b3:=N0.q3 rfl
 by_cases hz:ZT op vs rs Z0=0
 · have ht:Lg op vs rs Z0=Sd op vs rs Z0:=if_pos hz;rw [ht] at hlen ⊢;have hf:(ZK op vs rs Z0).2=0:=(by unfold ZK;rw [if_pos hz]);have HX:=hide (fun (w':World) (hb:Below w.heap.size w w')=>FE op vs Z0 rs HA hc (fun k=>k<w'.heap.size) w' (fun _ h=>h) (((hs.below hb).more hb.size).bV fun _ h=>h) hz);obtain ⟨ev,hev⟩:=eE (Sd op vs rs Z0);rw [<- hev] at hlen HX ⊢;have HLEN:=hide hlen;rw [hz];clear hs hn hlen hz ht hev;rw [hw0] at b0 b1 b2 b3 HFM;go_enter func12,ntmps12;go_wp2_with fail;refine HFM.out.mono ?_;rw [<- hw0];rintro e w1 ⟨fv,rfl,-,hb1⟩;rw [hf];have HB1:=hide (Z9 hb0 hb1);have N1:=N0.step hb1;clear b0 b1 b2 b3 N0 hb0 hb1 HFM hw0 hf;have b0:=N1.q0 rfl;have b1:=N1.q1 rfl;have b2:=N1.q2 rfl;have b3:=N1.q3 rfl;clear N1;go_wp2_with fail;refine (HX.out w1 HB1.out).mono ?_;rintro e w2 ⟨sv,K,rfl,hb2,hK,hes⟩;have C:=hide (GR K sv ev w2 (fun k hk=>(hK k hk).elim (fun h=>Nat.lt_of_lt_of_le h hb2.size) fun h=>h.2) hes HLEN.out);have HB2:=hide (Z9 HB1.out hb2);clear hb2 hK hes b0 b1 b2 b3;go_wp2_with fail;refine C.out.mono ?_;rintro e w3 ⟨v,rfl,ZQ,hb3⟩
   have HO:Hid (w3.ownsRow w.heap.size 66 3 v ev.length (Y5 ev)):=hide ⟨ZQ.1,by
    rcases ZQ.2 with h0|⟨g',cap,cur,h1,h2,r⟩
    · exact .inl h0
    · exact .inr ⟨g',cap,cur,h1,Nat.le_trans HB2.out.size h2,r⟩⟩
   have HB3:=hide (Z9 HB2.out hb3);clear ZQ hb3 C;go_wp2;go_ret2;exact ⟨v,rfl,HO.out,HB3.out⟩
 · have ht:Lg op vs rs Z0=[]:=if_neg hz;rw [ht];have hf:(ZK op vs rs Z0).2=ZT op vs rs Z0:=(by unfold ZK;rw [if_neg hz]);obtain ⟨er,her⟩:=eE (ZT op vs rs Z0);rw [<- her] at hz hf ⊢;have hne:(er != 0)=true:=(by simpa using hz);clear hs hn hlen hz ht her;rw [hw0] at b0 b1 b2 b3 HFM;go_enter func12,ntmps12;go_wp2_with fail;refine HFM.out.mono ?_;rw [<- hw0];rintro e w1 ⟨fv,rfl,-,hb1⟩;rw [hf];have HB1:=hide (Z9 hb0 hb1);clear b0 b1 b2 b3 N0 hb0 hb1 HFM hw0 hf;go_wp2;go_ret2;exact ⟨_,rfl,World.ownsRow_nil _ _ _ _,HB1.out⟩
theorem Ch:Calls prog 14 #[.agg #[.int .i64 op,.int .i64 vs,.slice HA rs.length hc,.int .i64 Z0]] w fun e w' =>
 e=.returned (.tuple #[.int .i64 ((Lg op vs rs Z0).length:Int),.int .i64 (ZT op vs rs Z0)])/\Below w.heap.size w w':=by
 obtain ⟨w0,hw0⟩:=eE (w.alloc (.cells #[.int .i64 op,.int .i64 vs,.slice HA rs.length hc,.int .i64 Z0] 24));have hb0:=bE hw0;have N0:Z6 w0 w.heap.size 24 #[.int .i64 op,.int .i64 vs,.slice HA rs.length hc,.int .i64 Z0]:=by rw [hw0];exact Z6.new _ _ _
 have HE:=hide (Qm op vs Z0 rs HA hc w0 ((hs.below hb0).more hb0.size) hn hlen);have b0:=N0.q0 rfl;have b1:=N0.q1 rfl;have b2:=N0.q2 rfl;have b3:=N0.q3 rfl;obtain ⟨ev,hev⟩:=eE (Lg op vs rs Z0);obtain ⟨er,her⟩:=eE (ZT op vs rs Z0);rw [<- hev,<- her] at HE ⊢;have HB0:=hide hb0;clear hs hn hlen hev her N0 hb0;rw [hw0] at b0 b1 b2 b3 HE;go_enter func14,ntmps14;go_wp2_with fail;refine HE.out.mono ?_;rw [<- hw0];rintro e w1 ⟨v,rfl,ZQ,hb1⟩;obtain ⟨A,c,rfl,_⟩:=ZJ ZQ;have HB1:=hide (Z9 HB0.out hb1);clear b0 b1 b2 b3 hb1 HE hw0 ZQ;go_wp2;go_ret2;exact ⟨rfl,HB1.out⟩
end
end
section
open Go.RowKit
theorem Qg(rs:List Rg):∀ n,(XV rs n).length=n*(1+(XH 0 rs).length)
 | 0=>by simp [XV]
 | n+1=>by
   have h:=Qg rs n;have e:XV rs (n+1)=XV rs n++((8,(n:Int),0)::XH 0 rs):=by
    unfold XV;rw [List.range_succ,List.flatMap_append];simp
   rw [e,List.length_append,h,List.length_cons,Nat.add_mul,Nat.one_mul];omega
theorem iy(rs:List Rg)(n:Nat):(nY rs n).length=(Xe 0 rs).length+n*(1+(XH 0 rs).length)+n+(YZ (lg n)).length:=by
 unfold nY;rw [List.length_append,List.length_append,List.length_append,Qg,QB,SY]
theorem qW:(YZ (lg 1)).length=0/\(YZ (lg 2)).length=1/\(YZ (lg 4)).length=6:=by decide +kernel
end
section
open Go.RowKit Go.Shelf
theorem PK(es1 es2:List Ev)(v1 v2:Value)(B B2:Nat)(w2:World)(h1:w2.ownsRow B 66 3 v1 es1.length (Y5 es1))(h2:w2.ownsRow B2 66 3 v2 es2.length (Y5 es2))(l1:es1.length<=2000000)(l2:es2.length<=2000000)(hB:B<=w2.heap.size):
 ∃ v3 w3,(Builtin.append_ #[27,27] 27 #[v1,v2]).run prog w2=.ok v3 w3/\w3.ownsRow B 66 3 v3 (es1++es2).length (Y5 (es1++es2))/\∀ w:World,Below w.heap.size w w2->w.heap.size<=B->Below w.heap.size w w3:=by
 obtain ⟨i0,hi,hz0',hz1',hz2'⟩:=info_parts V8;rcases h2.2 with ⟨rfl,h0⟩|⟨g2,cap2,cur,rfl,hb2,iN,hc2,hm2,_⟩
 · have he:es2=[]:=List.eq_nil_of_length_eq_zero h0;subst he;rw [List.append_nil];exact ⟨v1,w2,run_append_owned_none (P:=prog) w2 B 27 27 66 i0 3 underlying27 hi _ _ _ h1,h1,fun w h _=>h⟩
 · have hcells:∀ j u,(Y5 es2)[j]?=some u->w2.cell? ((⟨g2,0,none⟩:Addr).add j)=some u:=fun j u hu=>by
    have h:=Sl.YI h2;rcases h with h|⟨b',off',hA,_,hc⟩
    · rw [h] at hu;simp at hu
    · cases hA;have h2:=hc j u hu;rw [Nat.zero_add] at h2;rw [YS];exact h2
   obtain ⟨v3,w3,hrun,ZM,ZE,_⟩:=run_append_own (P:=prog) w2 B 27 27 66 i0 (.agg #[.int .i64 0,.int .i64 0,.int .i64 0]) 3 24 underlying27 hi hz0' hz1' hz2' rfl (by decide) v1 es1.length (Y5 es1) h1 ⟨g2,0,none⟩ es2.length cap2 (Y5 es2) (WH es2) hcells (TB es2) (by unfold maxLen;omega) (by omega) hB;rw [<- QY,<- List.length_append] at ZM;exact ⟨v3,w3,hrun,ZM,fun w h hwB=>h.grown ZE h.size (fun j hj=>Nat.le_trans hwB (ZP h1 hj))⟩
theorem OB(rs:List Rg)(k:Nat):XV rs (k+1)=XV rs k++[(8,(k:Int),0)]++XH 0 rs:=by
 unfold XV;rw [List.range_succ,List.flatMap_append];simp
theorem pq(v:Int):(U8 v).length<=64:=by
 unfold U8;split
 · simp
 · rw [VE,List.length_range];unfold ZA;split <;> omega
theorem LH:∀ (i:Nat) (l:List Rg),(XH i l).length<=65*l.length
 | i,[]=>by simp [XH]
 | i,x::l=>by
   have h:=LH (i+1) l;have h2:=pq x.v;simp only [XH,List.length_cons,List.length_append];omega
theorem Ug{rs:List Rg}(h:rs.length<=64):∀ k,(XV rs k).length<=4161*k
 | 0=>by simp [XV]
 | k+1=>by
   have h1:=Ug h k;have h2:=LH 0 rs;rw [OB,List.length_append,List.length_append,List.length_singleton];omega
theorem bP(rs:List Rg)(A:Option Addr)(c n:Nat)(w:World)(hs:Sl w w.heap.size A (rgCells rs))(hrl:rs.length<=64)(hv:∀ r∈rs,r.v=0\/3<=r.v/\r.v<=64)(hn:n<=100):
 Calls prog 109 #[.slice A rs.length c,.int .i64 (n:Int)] w (dB (Xe 0 rs++XV rs n) w):=by
 obtain ⟨i0,hi,hz0,hz1,hz2⟩:=info_parts V8;have HV:=hide (fun (w':World) (hb:Below w.heap.size w w')=>I9 rs A c w' ((hs.below hb).more hb.size) hrl hv);have HM:=hide (fun (w':World) (hb:Below w.heap.size w w')=>I8 rs A c w' ((hs.below hb).more hb.size) hrl hv);have HIS:=hide (OB rs);have HIL:=hide (fun k=>Ug hrl k);have hvl:=WJ 0 rs;have hml:=LH 0 rs;have hi0:XV rs 0=[]:=rfl;obtain ⟨E0,hE0⟩:∃ E,E=Xe 0 rs:=⟨_,rfl⟩;obtain ⟨E1,hE1⟩:∃ E,E=XH 0 rs:=⟨_,rfl⟩;obtain ⟨it,hit⟩:∃ f,f=XV rs:=⟨_,rfl⟩;rw [<- hE0] at HV hvl ⊢;rw [<- hE1] at HM HIS hml;rw [<- hit] at HIS HIL hi0 ⊢;have HML:Hid (E1.length<=300000):=hide (by omega);obtain ⟨F,hF⟩:∃ F:Nat->List Ev,F=fun k=>E0++it k:=⟨_,rfl⟩;have CO:Hid (F 0=E0):=hide (by rw [hF];dsimp only;rw [hi0,List.append_nil]);have HFS:Hid (∀ k,F (k+1)=F k++[(8,(k:Int),0)]++E1):=hide (fun k=>by rw [hF];dsimp only;rw [HIS.out,List.append_assoc,List.append_assoc,List.append_assoc]);have HFL:Hid (∀ k,k<=n->(F k).length<=900000):=hide (fun k hk=>by have:=HIL.out k;rw [hF];dsimp only;rw [List.length_append];omega);have hFn:E0++it n=F n:=by rw [hF]
 rw [hFn];clear hFn hF HIS HIL hi0 hE0 hE1 hit hvl hml hs hv;go_enter func109,ntmps109;go_wp2_with fail;refine (HV.out w (Below.refl _ _)).mono ?_;rintro e w1 ⟨v1,rfl,Zn,hb1⟩;clear HV;go_wp2
 go_loopw [5,6] (fun o i wr=>∃ k:Nat,k<=n/\i=.int .i64 (k:Int)/\wr.ownsRow w.heap.size 66 3 o (F k).length (Y5 (F k))/\Below w.heap.size w wr)
  (fun _ i _=>n - (intOf i).toNat)
 case atStart=>exact ⟨0,Nat.zero_le _,rfl,by rw [CO.out];exact Zn,hb1⟩
 case round =>
  clear Zn hb1;obtain ⟨k,hk,rfl,ZQ,hbr⟩:=hrel;obtain ⟨OA,oc,rfl,hoc⟩:=ZJ ZQ
  by_cases hkn:k<n
  · have hki:(k:Int)<(n:Int):=(by omega);have hlk:=HFL.out k hk;have E8:=hide (HFS.out k);obtain ⟨X,hX⟩:=eE (F k);rw [<- hX] at ZQ hlk E8;rw [<- hX];clear hX;have hbz:=Z7 (Below.refl wr.heap.size wr) (.cells #[.int .i64 8,.int .i64 (k:Int),.int .i64 0] 66);have N6:=Z6.new wr 66 #[.int .i64 8,.int .i64 (k:Int),.int .i64 0];have Yo:=ZO ZQ hbz;have hwx:=Z9 hbr hbz;obtain ⟨g7,SC,w7,hrun,Yy,Yx,_,_⟩:=run_append_lies (P:=prog) (wr.alloc (.cells #[.int .i64 8,.int .i64 (k:Int),.int .i64 0] 66)) 27 27 w.heap.size 66 i0 (.agg #[.int .i64 0,.int .i64 0,.int .i64 0]) 3 24 underlying27 hi hz0 hz1 hz2 rfl (by decide) _ X.length (Y5 X) Yo ⟨wr.heap.size,0,none⟩ 1 1 [.int .i64 8,.int .i64 (k:Int),.int .i64 0] rfl (fun j u hu=>by rw [YS];exact N6.cell (by simpa using hu)) (by simp [Value.oneCell']) (by omega) (by unfold maxLen;omega) (by omega) hwx.size _ rfl;have hw7:Below w.heap.size w w7:=hwx.grown Yx hwx.size (fun j hj=>ZP Yo hj);have tN:Hid (w7.ownsRow w.heap.size 66 3 (.slice (some ⟨g7,0,none⟩) (X.length+1) SC) (X++[(8,(k:Int),0)]).length (Y5 (X++[(8,(k:Int),0)]))):=hide (by rw [Yb,List.length_append];exact Yy);clear Yy Yx N6 Yo hwx hbz ZQ hbr;go_wp2_with (at_builtin;refine wpList_append_run (.tmp 14) (.tmp 17) 27 rfl rfl _ _ rfl rfl hrun ?_);clear hrun;go_wp2_with fail;refine (HM.out w7 hw7).mono ?_;rintro e w8 ⟨v8,rfl,Xk,RL⟩;have xL:=Z9 hw7 RL;obtain ⟨v9,w9,eT,eF,zoa⟩:=PK (X++[(8,(k:Int),0)]) E1 _ v8 w.heap.size w7.heap.size w8 (ZO tN.out RL) Xk (by rw [List.length_append,List.length_singleton];omega) (by have:=HML.out;omega) xL.size;have HB9:=zoa w xL (Nat.le_refl _);have HO9:Hid (w9.ownsRow w.heap.size 66 3 v9 (F (k+1)).length (Y5 (F (k+1)))):=hide (by rw [E8.out];exact eF);clear eF zoa Xk RL tN;go_wp2_with (at_builtin;refine wpList_append_run (.tmp 19) (.tmp 21) 27 rfl rfl _ _ rfl rfl eT ?_);clear eT;go_wp2;go_roundw
    case rel=>exact ⟨k+1,by omega,by go_num,HO9.out,HB9⟩
    case measure=>simp [intOf];omega
  · obtain rfl:k=n:=(by omega);have hki:¬ (k:Int)<(k:Int):=(by omega);go_wp2;go_ret;exact ⟨_,rfl,ZQ,hbr⟩
theorem KJ{n:Nat}(h:n<=100):(YZ (lg n)).length<=20000:=by
 have h1:∀ m:Fin 101,(YZ (lg m.val)).length<=20000:=by decide +kernel
 exact h1 ⟨n,by omega⟩
theorem ztu(rs:List Rg)(A:Option Addr)(c n:Nat)(w:World)(hs:Sl w w.heap.size A (rgCells rs))(hrl:rs.length<=64)(hv:∀ r∈rs,r.v=0\/3<=r.v/\r.v<=64)(h1:1<=n)(hn:n<=100):
 Calls prog 65 #[.slice A rs.length c,.int .i64 (n:Int)] w (dB (nY rs n) w):=by
 have HR:=hide (bP rs A c n w hs hrl hv hn);have HC:=hide (fun w'=>rR n (by omega) w');have HS:=hide (fun w'=>lq n h1 hn w');have hlv:=WJ 0 rs;have hli:=Ug hrl n;have hl3:=QB n;have hl4:=SY (YZ (lg n));have hl5:=KJ hn;have he:nY rs n=(Xe 0 rs++XV rs n)++XT n++Y3 (YZ (lg n)):=rfl;rw [he];obtain ⟨X,hX⟩:=eE (Xe 0 rs++XV rs n);have hlx:X.length<=1000000:=by rw [hX,List.length_append];omega
 obtain ⟨Y,hY⟩:=eE (XT n);obtain ⟨Z,hZ⟩:=eE (Y3 (YZ (lg n)));rw [<- hX] at HR ⊢;rw [<- hY] at HC hl3 ⊢;rw [<- hZ] at HS hl4 ⊢;have HLX:=hide hlx;have HLY:Hid (Y.length<=1000):=hide (by omega);have HLZ:Hid (Z.length<=20000):=hide (by omega);clear he hX hY hZ hlx hlv hli hl3 hl4 hl5 hs hv;go_enter func65,ntmps65;go_wp2_with fail;refine HR.out.mono ?_;rintro e w1 ⟨v1,rfl,Zn,hb1⟩;clear HR;have gG:=hide Zn;clear Zn;go_wp2_with fail;refine (HC.out w1).mono ?_;rintro e w2 ⟨v2,rfl,Zj,hb2⟩;have HB2:=Z9 hb1 hb2;obtain ⟨v3,w3,pR,ZM,Mg⟩:=PK X Y v1 v2 w.heap.size w1.heap.size w2 (ZO gG.out hb2) Zj (by have:=HLX.out;omega) (by have:=HLY.out;omega) HB2.size;have HB3:=Mg w HB2 (Nat.le_refl _);have HO3:=hide ZM;clear ZM Zj Mg hb2 hb1 gG HC;go_wp2_with (at_builtin;refine wpList_append_run (.tmp 8) (.tmp 10) 27 rfl rfl _ _ rfl rfl pR ?_);clear pR;go_wp2_with fail;refine (HS.out w3).mono ?_;rintro e w4 ⟨v4,rfl,Y9,hb4⟩;have Qv:=Z9 HB3 hb4;obtain ⟨v5,w5,eP,DI,oW⟩:=PK (X++Y) Z v3 v4 w.heap.size w3.heap.size w4 (ZO HO3.out hb4) Y9 (by have h1:=HLX.out;have h2:=HLY.out;rw [List.length_append];omega) (by have:=HLZ.out;omega) Qv.size;have fK:=oW w Qv (Nat.le_refl _);have HO5:=hide DI;clear DI Y9 oW hb4 HO3 HS;go_wp2_with (at_builtin;refine wpList_append_run (.tmp 12) (.tmp 14) 27 rfl rfl _ _ rfl rfl eP ?_);clear eP;go_wp2;go_ret;exact ⟨_,rfl,HO5.out,fK⟩
end
end Go.Proofs.YtfljlmleiggmjaaGreatDoor