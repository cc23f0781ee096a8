/- RefPoly2 RefFence2 -/
import Derived.Test.YthnenedoblncjaaGreatDoorPkA33
import Derived.Test.YthnenedoblncjaaGreatDoorPkA43
set_option maxRecDepth 1000000
set_option maxHeartbeats 8000000
namespace Go.Proofs.YthnenedoblncjaaGreatDoor
open Go.Proofs.Tryz
section
open Go.RowKit
def Im(n:Nat):Bool:=decide (3<=n/\n<=64)
theorem RX(n:Nat)(A:Option Addr)(c:Nat)(w:World):Calls prog 123 #[.slice A n c] w fun e w'=>e=.returned (.bool (Im n))/\w'=w:=by
 by_cases h3:3<=n
 · have h3i:(3:Int)<=(n:Int):=by omega
   by_cases h64:n<=64
   · have bP:(n:Int)<=64:=(by omega);have H:Hid (Im n=true):=hide (by simp [Im];omega);go_enter func123,ntmps123;go_wp2;go_ret;exact ⟨by rw [H.out];rfl,rfl⟩
   · have bP:¬ (n:Int)<=64:=(by omega);have H:Hid (Im n=false):=hide (by simp [Im];omega);go_enter func123,ntmps123;go_wp2;go_ret;exact ⟨by rw [H.out];rfl,rfl⟩
 · have h3i:¬ (3:Int)<=(n:Int):=(by omega);have H:Hid (Im n=false):=hide (by simp [Im];omega);go_enter func123,ntmps123;go_wp2;go_ret;exact ⟨by rw [H.out];rfl,rfl⟩
theorem Uo(ps:List Pt)(hps:Ub ps)(A:Option Addr)(c:Nat)(w:World)(hs:Sl w w.heap.size A (Zg ps)):
 Calls prog 124 #[.slice A ps.length c] w fun e w'=>e=.returned (.int .i64 (Z4 ps))/\Below w.heap.size w w':=by
 by_cases hi:3<=ps.length/\ps.length<=64
 · have hI:Calls prog 123 #[.slice A ps.length c] w fun e w'=>e=.returned (.bool true)/\w'=w:=by
    have h:=RX ps.length A c w;rw [show Im ps.length=true by simp [Im];omega] at h;exact h
   have ho:Z4 ps=(ZM (Z5 ps 0) (Z5 ps 1) (Z5 ps 2)).sign:=(by unfold Z4;rw [if_pos hi]);rw [ho];obtain ⟨b,off,rfl,hb⟩:=VL hs (by omega);obtain ⟨a0,a1⟩:=X8 hs (k:=0) (by omega);obtain ⟨b0,b1⟩:=X8 hs (k:=1) (by omega);obtain ⟨c0,c1⟩:=X8 hs (k:=2) (by omega);have l0:0<ps.length:=(by omega);have l1:(1:Int)<((ps.length:Nat):Int):=(by omega);have l2:(2:Int)<((ps.length:Nat):Int):=by omega
   have HO:Hid (∀ wk,Below w.heap.size w wk->Calls prog 40 #[.agg #[.int .i64 (Z5 ps 0).1,.int .i64 (Z5 ps 0).2],.agg #[.int .i64 (Z5 ps 1).1,.int .i64 (Z5 ps 1).2],.agg #[.int .i64 (Z5 ps 2).1,.int .i64 (Z5 ps 2).2]] wk fun e w'=>e=.returned (.int .i64 (ZM (Z5 ps 0) (Z5 ps 1) (Z5 ps 2)).sign)/\Below wk.heap.size wk w') :=
    hide fun wk _=>RY _ _ _ (hps.at_ 0) (hps.at_ 1) (hps.at_ 2) wk
   generalize hos:(ZM (Z5 ps 0) (Z5 ps 1) (Z5 ps 2)).sign=os at *;generalize hpa:Z5 ps 0=pa at *;generalize hpb:Z5 ps 1=pb at *;generalize hpc:Z5 ps 2=pc at *;obtain ⟨a,a'⟩:=pa;obtain ⟨b2,b'⟩:=pb;obtain ⟨c2,c'⟩:=pc;dsimp only at *;simp only [Nat.zero_mul,Nat.add_zero,Nat.one_mul,Nat.reduceMul] at a0 a1 b0 b1 c0 c1;have HI:=hide hI;clear hI hos hpa hpb hpc ho hs hps;have hbd:=ZU (Below.refl w.heap.size w);go_enter func124,ntmps124;go_wp2_with fail;refine HI.out.mono ?_;rintro e w1 ⟨rfl,hw1⟩;rw [hw1];clear hw1;go_wp2
   go_region_held3 (fun w'=>(Below w.heap.size w w'/\w'.cell? ⟨b,off,none⟩=some (.int .i64 a)/\w'.cell? ⟨b,off+1,none⟩=some (.int .i64 a'))/\(w'.cell? ⟨b,off+2,none⟩=some (.int .i64 b2)/\w'.cell? ⟨b,off+2+1,none⟩=some (.int .i64 b'))/\w'.cell? ⟨b,off+4,none⟩=some (.int .i64 c2)/\w'.cell? ⟨b,off+4+1,none⟩=some (.int .i64 c'))
    (first|exact ⟨⟨hbd,a0,a1⟩,⟨b0,b1⟩,c0,c1⟩|exact ⟨⟨Z9 hbd (by assumption),(hb1.cell (p:=⟨b,_,none⟩) hb).trans a0,(hb1.cell (p:=⟨b,_,none⟩) hb).trans a1⟩,⟨(hb1.cell (p:=⟨b,_,none⟩) hb).trans b0,(hb1.cell (p:=⟨b,_,none⟩) hb).trans b1⟩,(hb1.cell (p:=⟨b,_,none⟩) hb).trans c0,(hb1.cell (p:=⟨b,_,none⟩) hb).trans c1⟩)
    (first
      | (go_at_call 40;((with_reducible refine (HO.out _ hbd).mono ?_);rintro e w' ⟨rfl,hb1⟩)))
   all_goals
    go_wp2;go_ret;exact ⟨rfl,Z9 hbd hb1⟩
 · have hI:Hid (Calls prog 123 #[.slice A ps.length c] w fun e w'=>e=.returned (.bool false)/\w'=w):=hide (by
    have h:=RX ps.length A c w;rw [show Im ps.length=false by simp [Im];omega] at h
    exact h)
   have ho:Z4 ps=0:=(by unfold Z4;rw [if_neg hi]);rw [ho];clear hps hs ho hi;go_enter func124,ntmps124;go_wp2_with fail;refine hI.out.mono ?_;rintro e w1 ⟨rfl,rfl⟩;go_wp2;go_ret;exact ⟨rfl,Below.refl _ _⟩
theorem Mw(ps:List Pt)(hps:Ub ps)(n:Nat)(hln:ps.length=n)(i:Nat)(hi:i<n)(hn:n<=10000)(p:Pt)(hp:PJ p)(A:Option Addr)(c:Nat)(w:World)(hs:Sl w w.heap.size A (Zg ps)):
 Calls prog 125 #[.slice A n c,.int .i64 i,Mh p] w fun e w'=>e=.returned (.int .i64 (ZM (Z5 ps i) (Z5 ps ((i+1) % n)) p).sign)/\Below w.heap.size w w':=by
 obtain ⟨p1,p2⟩:=p;unfold Mh;obtain ⟨w0,hw0⟩:=eE (w.alloc (.cells #[.int .i64 p1,.int .i64 p2] 41));have hb0:=bE hw0;have B0:Z6 w0 w.heap.size 41 #[.int .i64 p1,.int .i64 p2]:=by rw [hw0];exact Z6.new _ _ _
 have hs0:=(hs.below hb0).more hb0.size;obtain ⟨b,off,rfl,hb⟩:=VL hs0 (by omega);obtain ⟨ni,hni⟩:=eE ((i+1) % n);have hnl:ni<n:=by rw [hni];exact Nat.mod_lt _ (by omega)
 obtain ⟨a0,a1⟩:=X8 hs0 (k:=i) (by omega);obtain ⟨b0,b1⟩:=X8 hs0 (k:=ni) (by omega);have c0:w0.cell? ⟨w.heap.size,0,none⟩=some (.int .i64 p1):=B0.q0 rfl;have c1:w0.cell? ⟨w.heap.size,1,none⟩=some (.int .i64 p2):=B0.q1 rfl;have hg:=B0.lt;have hmod:((i:Int)+1).tmod (n:Int)=(ni:Int):=by rw [Int.tmod_eq_emod_of_nonneg (by omega),hni];simp
 have hil:(i:Int)<((n:Nat):Int):=by omega
 have hsum:IntKind.i64.wrap ((i:Int)+1)=(i:Int)+1:=by rw [IntKind.wrap_i64];omega
 have hwn:IntKind.i64.wrap (ni:Int)=(ni:Int):=by rw [IntKind.wrap_i64];omega
 have hnil:(ni:Int)<((n:Nat):Int):=by omega
 have hl0:((n:Nat):Int)≠0:=by omega
 have hl1:((n:Int) == 0)=false:=by simp;omega
 have hl2:n≠0:=by omega
 have HO:Hid (∀ wk,Calls prog 40 #[.agg #[.int .i64 (Z5 ps i).1,.int .i64 (Z5 ps i).2],.agg #[.int .i64 (Z5 ps ni).1,.int .i64 (Z5 ps ni).2],.agg #[.int .i64 p1,.int .i64 p2]] wk fun e w'=>e=.returned (.int .i64 (ZM (Z5 ps i) (Z5 ps ni) (p1,p2)).sign)/\Below wk.heap.size wk w') :=
  hide fun wk=>RY _ _ (p1,p2) (hps.at_ i) (hps.at_ ni) hp wk
 rw [<- hni];generalize hos:(ZM (Z5 ps i) (Z5 ps ni) (p1,p2)).sign=os at *;generalize hpa:Z5 ps i=pa at *;generalize hpb:Z5 ps ni=pb at *;obtain ⟨a,a'⟩:=pa;obtain ⟨b2,b'⟩:=pb;dsimp only at *;have hbd:=ZU (Below.refl w0.heap.size w0);have HB0:=hide hb0;clear hos hpa hpb hs hs0 hps hp hni B0 hb0 hln;go_enter func125,ntmps125;go_wp2;rw [<- hw0];have HW0:=hide hw0;clear hw0
 go_region_held3 (fun w'=>(Below w0.heap.size w0 w'/\w'.cell? ⟨b,off+i*2,none⟩=some (.int .i64 a)/\w'.cell? ⟨b,off+i*2+1,none⟩=some (.int .i64 a'))/\(w'.cell? ⟨b,off+ni*2,none⟩=some (.int .i64 b2)/\w'.cell? ⟨b,off+ni*2+1,none⟩=some (.int .i64 b'))/\w'.cell? ⟨w.heap.size,0,none⟩=some (.int .i64 p1)/\w'.cell? ⟨w.heap.size,1,none⟩=some (.int .i64 p2))
  (first|exact ⟨⟨hbd,a0,a1⟩,⟨b0,b1⟩,c0,c1⟩|exact ⟨⟨Z9 hbd (by assumption),(hb1.cell (p:=⟨b,_,none⟩) hb).trans a0,(hb1.cell (p:=⟨b,_,none⟩) hb).trans a1⟩,⟨(hb1.cell (p:=⟨b,_,none⟩) hb).trans b0,(hb1.cell (p:=⟨b,_,none⟩) hb).trans b1⟩,(hb1.cell (p:=⟨_,_,none⟩) hg).trans c0,(hb1.cell (p:=⟨_,_,none⟩) hg).trans c1⟩)
  (first
    | (go_at_call 40;((with_reducible refine (HO.out _).mono ?_);rintro e w' ⟨rfl,hb1⟩)))
 all_goals
  go_wp2;go_ret;exact ⟨rfl,Z9 HB0.out (Z9 hbd hb1)⟩
theorem CU(s:Int)(ps:List Pt)(i:Nat)(v:Bool)(k:Nat):WB s ps i v k=(v && (List.range k).all (G5 s ps i)):=by
 induction k with
 | zero=>simp [WB]
 | succ k ih=>rw [Oa,ih,List.range_succ,List.all_append];simp [Bool.and_assoc]
theorem Ei(s:Int)(ps:List Pt)(k:Nat):vF s ps (List.range k)=(!decide (s=0) && (List.range k).all fun i=>(List.range ps.length).all (G5 s ps i)):=by
 induction k with
 | zero=>simp [vF]
 | succ k ih=>rw [List.range_succ,Bb,CU,ih,List.all_append];simp [Bool.and_assoc]
theorem zT{ps:List Pt}(h:¬ (3<=ps.length/\ps.length<=64)):YB ps=false:=by
 unfold YB Y6;rw [if_neg h,Ei];unfold Z4;rw [if_neg h];rfl
theorem Ej{ps:List Pt}(h:3<=ps.length/\ps.length<=64){i j:Nat}(hi:i<ps.length)(hj:j<ps.length)(hb:G5 (Z4 ps) ps i j=false):YB ps=false:=by
 unfold YB Y6;rw [if_pos h,Ei];have h1:((List.range ps.length).all fun i=>(List.range ps.length).all (G5 (Z4 ps) ps i))=false:=by
  rw [List.all_eq_false];refine ⟨i,List.mem_range.2 hi,?_⟩;rw [Bool.not_eq_true,List.all_eq_false];exact ⟨j,List.mem_range.2 hj,by rw [hb];simp⟩
 rw [h1,Bool.and_false]
theorem GV{ps:List Pt}(h:3<=ps.length/\ps.length<=64)(hb:∀ i,i<ps.length->∀ j,j<ps.length->G5 (Z4 ps) ps i j=true):YB ps=!decide (Z4 ps=0):=by
 unfold YB Y6;rw [if_pos h,Ei];have h1:((List.range ps.length).all fun i=>(List.range ps.length).all (G5 (Z4 ps) ps i))=true:=by
  rw [List.all_eq_true];intro i hi;rw [List.all_eq_true];intro j hj;exact hb i (List.mem_range.1 hi) j (List.mem_range.1 hj)
 rw [h1,Bool.and_true]
def Rt(ps:List Pt)(p:Pt)(k:Nat):Int:=if k=0 then 1 else KU (Xh (Z4 ps) ps p (List.range k)).1 (Xh (Z4 ps) ps p (List.range k)).2
theorem zA(ps:List Pt)(p:Pt)(k:Nat):min (Rt ps p k) (Wn (Z4 ps) ps p k)=Rt ps p (k+1):=by
 have hb:=ME ps p k;unfold Rt;rw [if_neg (Nat.succ_ne_zero k),List.range_succ,JX];generalize Wn (Z4 ps) ps p k=x at *
 by_cases hk:k=0
 · subst hk;have h:x=-1\/x=0\/x=1:=(by omega);simp only [List.range_zero,show Xh (Z4 ps) ps p []=(true,false) from rfl];rcases h with rfl|rfl|rfl <;> decide
 · rw [if_neg hk];generalize Xh (Z4 ps) ps p (List.range k)=st;obtain ⟨a,b⟩:=st;have h:x=-1\/x=0\/x=1:=(by omega);simp only [hk,decide_false,cond_false];rcases h with rfl|rfl|rfl <;> cases a <;> cases b <;> decide
theorem pz(ps:List Pt)(p:Pt)(k:Nat):-1<=Rt ps p k/\Rt ps p k<=1:=by
 unfold Rt;split
 · omega
 · generalize Xh (Z4 ps) ps p (List.range k)=st;obtain ⟨a,b⟩:=st;cases a <;> cases b <;> decide
theorem vX{ps:List Pt}(p:Pt)(h:3<=ps.length/\ps.length<=64):Rt ps p ps.length=UL ps p:=by
 unfold Rt UL Y6;rw [if_neg (by omega),if_pos h]
theorem nY{ps:List Pt}(p:Pt)(h:¬ (3<=ps.length/\ps.length<=64)):UL ps p=-1:=by
 unfold UL Y6;rw [if_neg h];rfl
theorem DV(ps:List Pt)(hps:Ub ps)(n:Nat)(hln:ps.length=n)(hi:3<=n/\n<=64)(A:Option Addr)(c:Nat)(w:World)(hs:Sl w w.heap.size A (Zg ps)):
 Calls prog 82 #[.slice A n c] w fun e w'=>e=.returned (.bool (YB ps))/\Below w.heap.size w w':=by
 have HI:Hid (Calls prog 123 #[.slice A n c] w fun e w'=>e=.returned (.bool true)/\w'=w):=hide (by
  have h:=RX n A c w;rw [show Im n=true by simp [Im];omega] at h
  exact h)
 have EA:Hid (Calls prog 124 #[.slice A n c] w fun e w'=>e=.returned (.int .i64 (Z4 ps))/\Below w.heap.size w w'):=hide (by
  have h:=Uo ps hps A c w hs;rw [hln] at h
  exact h)
 have HSI:Hid (∀ (i j:Nat) (wk:World),i<n->Below w.heap.size w wk->Calls prog 125 #[.slice A n c,.int .i64 i,.agg #[.int .i64 (Z5 ps j).1,.int .i64 (Z5 ps j).2]] wk fun e w'=>e=.returned (.int .i64 (ZM (Z5 ps i) (Z5 ps ((i+1) % n)) (Z5 ps j)).sign)/\Below wk.heap.size wk w') :=
  hide fun i j wk hi hk=>Mw ps hps n hln i hi (by omega) (Z5 ps j) (hps.at_ j) A c wk ((hs.below hk).more hk.size)
 have HBAD:Hid (∀ i j,i<n->j<n->G5 (Z4 ps) ps i j=false->YB ps=false):=hide fun i j h1 h2 h3=>Ej (by rw [hln];exact hi) (by omega) (by omega) h3;have jC:Hid ((∀ i,i<n->∀ j,j<n->G5 (Z4 ps) ps i j=true)->YB ps=!decide (Z4 ps=0)):=hide fun h=>GV (by rw [hln];exact hi) (by rw [hln];exact h);have UQ:Hid (∀ i j,G5 (Z4 ps) ps i j=(decide (j=i) || decide (j=(i+1) % n) || decide ((ZM (Z5 ps i) (Z5 ps ((i+1) % n)) (Z5 ps j)).sign=Z4 ps))):=hide fun i j=>by unfold G5;rw [hln]
 have HS:=hide hs;have HLN:=hide hln;have hn0:(n:Int)≠0:=by omega
 clear hps hs hln;obtain ⟨s,hs⟩:=eE (Z4 ps);rw [<- hs] at EA HBAD jC UQ;clear hs;go_enter func82,ntmps82;go_wp2_with fail;refine HI.out.mono ?_;rintro e w1 ⟨rfl,hw1⟩;rw [hw1];clear hw1;go_wp2_with fail;refine EA.out.mono ?_;rintro e w2 ⟨rfl,hb2⟩;go_wp2
 go_loopw [4,5] (fun u4 _ wr=>∃ i:Nat,i<=n/\u4=.int .i64 i/\Hid (∀ i',i'<i->∀ j,j<n->G5 s ps i' j=true)/\Below w.heap.size w wr)
  (fun u4 _ _=>n - (intOf u4).toNat)
 case atStart=>exact ⟨0,by omega,rfl,hide (fun i' h=>absurd h (by omega)),hb2⟩
 case round =>
  obtain ⟨i,hin,rfl,HD,hbr⟩:=hrel;clear hb2
  by_cases h:i<n
  · go_wp2
    go_loopw [5] (fun u5 wj=>∃ j:Nat,j<=n/\u5=.int .i64 j/\Hid (∀ j',j'<j->G5 s ps i j'=true)/\Below w.heap.size w wj)
     (fun u5 _=>n - (intOf u5).toNat)
    case atStart=>exact ⟨0,by omega,rfl,hide (fun i' h=>absurd h (by omega)),hbr⟩
    case round =>
     obtain ⟨j,hjn,rfl,HJ,hbj⟩:=hrel;clear hbr
     by_cases hj:j<n
     · obtain ⟨b,off,rfl,hb⟩:=VL HS.out (by have:=HLN.out;omega);obtain ⟨a0,a1⟩:=X8 (HS.out.below hbj) (k:=j) (by have:=HLN.out;omega);have hsi:=HSI.out i j wr h hbj;have hok:=UQ.out i j;have hbad:=HBAD.out i j h hj;obtain ⟨ni,hni⟩:=eE ((i+1) % n);rw [<- hni] at hsi hok;have hmod:((i:Int)+1).tmod (n:Int)=(ni:Int):=(by rw [Int.tmod_eq_emod_of_nonneg (by omega),hni];simp);generalize (ZM (Z5 ps i) (Z5 ps ni) (Z5 ps j)).sign=os at *;generalize Z5 ps j=pj at *;obtain ⟨x,y⟩:=pj;have HSJ:=hide hsi;have Wp:=hide hbad
       have hnext:G5 s ps i j=true->Hid (∀ j',j'<j+1->G5 s ps i j'=true):=fun h=>hide fun j' hj'=>by
        rcases Nat.lt_or_ge j' j with h1|h1
        · exact HJ.out j' h1
        · rw [show j'=j by omega];exact h
       clear hsi hni hbad
       by_cases h1:j=i
       · subst h1;have HN:=hnext (by rw [hok];simp);clear hok hnext HJ;go_wp2;go_roundw
         case rel=>exact ⟨j+1,by omega,by go_num,HN,hbj⟩
         case measure=>simp [intOf];omega
       · have h1i:(j:Int)≠(i:Int):=by omega
         by_cases h2:j=ni
         · subst h2;have HN:=hnext (by rw [hok];simp);clear hok hnext HJ;go_wp2;go_roundw
           case rel=>exact ⟨j+1,by omega,by go_num,HN,hbj⟩
           case measure=>simp [intOf];omega
         · have h2i:(j:Int)≠(ni:Int):=by omega
           by_cases h3:os=s
           · subst h3;have HN:=hnext (by rw [hok];simp);clear hok hnext HJ;go_wp2_with fail;refine HSJ.out.mono ?_;rintro e w5 ⟨rfl,hb5⟩;go_wp2;go_roundw
             case rel=>exact ⟨j+1,by omega,by go_num,HN,Z9 hbj hb5⟩
             case measure=>simp [intOf];omega
           · have q1:((j:Int) != (i:Int))=true:=bne_iff_ne.2 h1i;have q2:((j:Int) != (ni:Int))=true:=bne_iff_ne.2 h2i;have q3:(os != s)=true:=bne_iff_ne.2 h3;have HF:Hid (YB ps=false):=hide (Wp.out (by rw [hok];simp [h1,h2,h3]));clear hok hnext HJ;go_wp2_with fail;refine HSJ.out.mono ?_;rintro e w5 ⟨rfl,hb5⟩;go_wp2;go_ret;exact ⟨by rw [HF.out];rfl,Z9 hbj hb5⟩
     · obtain rfl:j=n:=by omega
       have HN:Hid (∀ i',i'<i+1->∀ k,k<j->G5 s ps i' k=true):=hide fun i' hi' k hk=>by
        rcases Nat.lt_or_ge i' i with h1|h1
        · exact HD.out i' h1 k hk
        · rw [show i'=i by omega];exact HJ.out k hk
       clear HD HJ;go_wp2;go_roundw
       case rel=>exact ⟨i+1,by omega,by go_num,HN,hbj⟩
       case measure=>simp [intOf];omega
  · obtain rfl:i=n:=(by omega);have HF:=hide (jC.out HD.out);go_wp2;go_ret;exact ⟨by rw [HF.out];rfl,hbr⟩
theorem MB(ps:List Pt)(hps:Ub ps)(A:Option Addr)(c:Nat)(w:World)(hs:Sl w w.heap.size A (Zg ps)):
 Calls prog 82 #[.slice A ps.length c] w fun e w'=>e=.returned (.bool (YB ps))/\Below w.heap.size w w':=by
 by_cases hi:3<=ps.length/\ps.length<=64
 · exact DV ps hps _ rfl hi A c w hs
 · have HI:Hid (Calls prog 123 #[.slice A ps.length c] w fun e w'=>e=.returned (.bool false)/\w'=w):=hide (by
    have h:=RX ps.length A c w;rw [show Im ps.length=false by simp [Im];omega] at h
    exact h)
   rw [zT hi];clear hps hs hi;go_enter func82,ntmps82;go_wp2_with fail;refine HI.out.mono ?_;rintro e w1 ⟨rfl,hw1⟩;rw [hw1];clear hw1;go_wp2;go_ret;exact ⟨rfl,Below.refl _ _⟩
theorem Gu(ps:List Pt)(hps:Ub ps)(n:Nat)(hln:ps.length=n)(hi:3<=n/\n<=64)(p:Pt)(hp:PJ p)(A:Option Addr)(c:Nat)(w:World)(hs:Sl w w.heap.size A (Zg ps)):
 Calls prog 83 #[.slice A n c,Mh p] w fun e w'=>e=.returned (.int .i64 (UL ps p))/\Below w.heap.size w w':=by
 obtain ⟨p1,p2⟩:=p;unfold Mh;obtain ⟨w0,hw0⟩:=eE (w.alloc (.cells #[.int .i64 p1,.int .i64 p2] 41));have hb0:=bE hw0;have B0:Z6 w0 w.heap.size 41 #[.int .i64 p1,.int .i64 p2]:=by rw [hw0];exact Z6.new _ _ _
 have hs0:=(hs.below hb0).more hb0.size
 have HI:Hid (Calls prog 123 #[.slice A n c] w0 fun e w'=>e=.returned (.bool true)/\w'=w0):=hide (by
  have h:=RX n A c w0;rw [show Im n=true by simp [Im];omega] at h
  exact h)
 have EA:Hid (Calls prog 124 #[.slice A n c] w0 fun e w'=>e=.returned (.int .i64 (Z4 ps))/\Below w0.heap.size w0 w'):=hide (by
  have h:=Uo ps hps A c w0 hs0;rw [hln] at h
  exact h)
 have HSI:Hid (∀ (i:Nat) (wk:World),i<n->Below w0.heap.size w0 wk->Calls prog 125 #[.slice A n c,.int .i64 i,.agg #[.int .i64 p1,.int .i64 p2]] wk fun e w'=>e=.returned (.int .i64 (ZM (Z5 ps i) (Z5 ps ((i+1) % n)) (p1,p2)).sign)/\Below wk.heap.size wk w') :=
  hide fun i wk hi hk=>Mw ps hps n hln i hi (by omega) (p1,p2) hp A c wk ((hs0.below hk).more hk.size)
 have G7:Hid (Rt ps (p1,p2) n=UL ps (p1,p2)):=hide (by have h:=vX (ps:=ps) (p1,p2) (by rw [hln];exact hi);rw [hln] at h;exact h);have HW:Hid (∀ i,IntKind.i64.wrap (Z4 ps*(ZM (Z5 ps i) (Z5 ps ((i+1) % n)) (p1,p2)).sign)=Wn (Z4 ps) ps (p1,p2) i):=hide fun i=>by have h:=MF ps (p1,p2) i;rw [hln] at h;exact h
 have HST:Hid (∀ i,min (Rt ps (p1,p2) i) (Wn (Z4 ps) ps (p1,p2) i)=Rt ps (p1,p2) (i+1)):=hide fun i=>zA _ _ i;have Wp:Hid (∀ i,-1<=Rt ps (p1,p2) i/\Rt ps (p1,p2) i<=1):=hide fun i=>pz _ _ i;have HSB:Hid (∀ i,-1<=Wn (Z4 ps) ps (p1,p2) i/\Wn (Z4 ps) ps (p1,p2) i<=1):=hide fun i=>ME _ _ i;have H0:Hid (Rt ps (p1,p2) 0=1):=hide rfl;have HB0:=hide hb0;have NH:=hide B0;clear hps hs hln hs0 hb0 B0 hp;obtain ⟨s,hs⟩:=eE (Z4 ps);rw [<- hs] at EA HW HST HSB;clear hs;go_enter func83,ntmps83;go_wp2_with fail;rw [<- hw0];clear hw0;refine HI.out.mono ?_;rintro e w1 ⟨rfl,hw1⟩;rw [hw1];clear hw1;go_wp2_with fail;refine EA.out.mono ?_;rintro e w2 ⟨rfl,hb2⟩;go_wp2
 go_loopw [6,7] (fun u6 u7 wr=>∃ i:Nat,i<=n/\u7=.int .i64 i/\u6=.int .i64 (Rt ps (p1,p2) i)/\Below w0.heap.size w0 wr)
  (fun _ u7 _=>n - (intOf u7).toNat)
 case atStart=>exact ⟨0,by omega,rfl,by rw [H0.out],hb2⟩
 case round =>
  obtain ⟨i,hin,rfl,rfl,hbr⟩:=hrel;clear hb2
  by_cases h:i<n
  · have c0:wr.cell? ⟨w.heap.size,0,none⟩=some (.int .i64 p1):=(NH.out.step hbr).q0 rfl;have c1:wr.cell? ⟨w.heap.size,1,none⟩=some (.int .i64 p2):=(NH.out.step hbr).q1 rfl;have hsi:=HSI.out i wr h hbr;have hw:=HW.out i;have hst:=HST.out i;have hsb:=HSB.out i;have hbd:=Wp.out i;generalize (ZM (Z5 ps i) (Z5 ps ((i+1) % n)) (p1,p2)).sign=os at *;generalize hr:Rt ps (p1,p2) i=r at *;generalize Wn s ps (p1,p2) i=z at *;have HSJ:=hide hsi;have HSS:=hide hst;clear hsi hst hr;go_wp2_with fail;refine HSJ.out.mono ?_;rintro e w5 ⟨rfl,hb5⟩;go_wp2;go_roundw
    case rel =>
     refine ⟨i+1,by omega,by go_num,?_,Z9 hbr hb5⟩;rw [<- HSS.out]
     congr 1
     omega
    case measure=>simp [intOf];omega
  · obtain rfl:i=n:=(by omega);go_wp2;go_ret;exact ⟨by rw [G7.out];rfl,Z9 HB0.out hbr⟩
theorem Oy(ps:List Pt)(hps:Ub ps)(p:Pt)(hp:PJ p)(A:Option Addr)(c:Nat)(w:World)(hs:Sl w w.heap.size A (Zg ps)):
 Calls prog 83 #[.slice A ps.length c,Mh p] w fun e w'=>e=.returned (.int .i64 (UL ps p))/\Below w.heap.size w w':=by
 by_cases hi:3<=ps.length/\ps.length<=64
 · exact Gu ps hps _ rfl hi p hp A c w hs
 · have HI:Hid (∀ wk,Calls prog 123 #[.slice A ps.length c] wk fun e w'=>e=.returned (.bool false)/\w'=wk):=hide (fun wk=>by
    have h:=RX ps.length A c wk;rw [show Im ps.length=false by simp [Im];omega] at h
    exact h)
   rw [nY p hi];clear hps hs hi hp;unfold Mh;go_enter func83,ntmps83;go_wp2_with fail;refine (HI.out _).mono ?_;rintro e w1 ⟨rfl,hw1⟩;rw [hw1];clear hw1;go_wp2;go_ret;exact ⟨rfl,bA⟩
theorem zw(ps:List Pt)(hps:Ub ps)(hln:ps.length=3)(A:Option Addr)(c:Nat)(w:World)(hs:Sl w w.heap.size A (Zg ps)):
 Calls prog 126 #[.slice A 3 c] w fun e w'=>e=.returned (.bool (Xu ps))/\Below w.heap.size w w':=by
 obtain ⟨b,off,rfl,hb⟩:=VL hs (by omega);obtain ⟨a0,a1⟩:=X8 hs (k:=0) (by omega);obtain ⟨b0,b1⟩:=X8 hs (k:=1) (by omega);obtain ⟨c0,c1⟩:=X8 hs (k:=2) (by omega)
 have HO:Hid (∀ wk,Calls prog 40 #[.agg #[.int .i64 (Z5 ps 0).1,.int .i64 (Z5 ps 0).2],.agg #[.int .i64 (Z5 ps 1).1,.int .i64 (Z5 ps 1).2],.agg #[.int .i64 (Z5 ps 2).1,.int .i64 (Z5 ps 2).2]] wk fun e w'=>e=.returned (.int .i64 (ZM (Z5 ps 0) (Z5 ps 1) (Z5 ps 2)).sign)/\Below wk.heap.size wk w') :=
  hide fun wk=>RY _ _ _ (hps.at_ 0) (hps.at_ 1) (hps.at_ 2) wk
 have HD:Hid (Xu ps=!decide ((ZM (Z5 ps 0) (Z5 ps 1) (Z5 ps 2)).sign=0)):=hide (by unfold Xu;rw [hln];simp);generalize (ZM (Z5 ps 0) (Z5 ps 1) (Z5 ps 2)).sign=os at *;generalize Z5 ps 0=pa at *;generalize Z5 ps 1=pb at *;generalize Z5 ps 2=pc at *;obtain ⟨a,a'⟩:=pa;obtain ⟨b2,b'⟩:=pb;obtain ⟨c2,c'⟩:=pc;dsimp only at *;simp only [Nat.zero_mul,Nat.add_zero,Nat.one_mul,Nat.reduceMul] at a0 a1 b0 b1 c0 c1;clear hs hps hln;have hbd:=ZU (Below.refl w.heap.size w);go_enter func126,ntmps126;go_wp2
 go_region_held3 (fun w'=>(Below w.heap.size w w'/\w'.cell? ⟨b,off,none⟩=some (.int .i64 a)/\w'.cell? ⟨b,off+1,none⟩=some (.int .i64 a'))/\(w'.cell? ⟨b,off+2,none⟩=some (.int .i64 b2)/\w'.cell? ⟨b,off+2+1,none⟩=some (.int .i64 b'))/\w'.cell? ⟨b,off+4,none⟩=some (.int .i64 c2)/\w'.cell? ⟨b,off+4+1,none⟩=some (.int .i64 c'))
  (first|exact ⟨⟨hbd,a0,a1⟩,⟨b0,b1⟩,c0,c1⟩|exact ⟨⟨Z9 hbd (by assumption),(hb1.cell (p:=⟨b,_,none⟩) hb).trans a0,(hb1.cell (p:=⟨b,_,none⟩) hb).trans a1⟩,⟨(hb1.cell (p:=⟨b,_,none⟩) hb).trans b0,(hb1.cell (p:=⟨b,_,none⟩) hb).trans b1⟩,(hb1.cell (p:=⟨b,_,none⟩) hb).trans c0,(hb1.cell (p:=⟨b,_,none⟩) hb).trans c1⟩)
  (first
    | (go_at_call 40;((with_reducible refine (HO.out _).mono ?_);rintro e w' ⟨rfl,hb1⟩)))
 all_goals
  go_wp2;go_ret;exact ⟨by rw [HD.out];rfl,Z9 hbd hb1⟩
theorem Mk(ps:List Pt)(hps:Ub ps)(A:Option Addr)(c:Nat)(w:World)(hs:Sl w w.heap.size A (Zg ps)):
 Calls prog 126 #[.slice A ps.length c] w fun e w'=>e=.returned (.bool (Xu ps))/\Below w.heap.size w w':=by
 by_cases h3:ps.length=3
 · have h:=zw ps hps h3 A c w hs;rw [h3];exact h
 · have h3i:((ps.length:Nat):Int)≠3:=(by omega);have h3b:(((ps.length:Nat):Int) == 3)=false:=(by simp;omega);have HD:Hid (Xu ps=false):=hide (by unfold Xu;simp [h3]);clear hs hps;go_enter func126,ntmps126;go_wp2
   go_quiet (fail)
   go_wp2;go_ret;exact ⟨by rw [HD.out];rfl,Zh (Below.refl _ _) _⟩
theorem Dy(ps:List Pt)(hps:Ub ps)(hln:ps.length=3)(p:Pt)(hp:PJ p)(A:Option Addr)(c:Nat)(w:World)(hs:Sl w w.heap.size A (Zg ps)):
 Calls prog 175 #[.slice A 3 c,Mh p] w fun e w'=>e=.returned (.int .i64 (VR ps p))/\Below w.heap.size w w':=by
 obtain ⟨p1,p2⟩:=p;unfold Mh;obtain ⟨w0,hw0⟩:=eE (w.alloc (.cells #[.int .i64 p1,.int .i64 p2] 41));have hb0:=bE hw0;have B0:Z6 w0 w.heap.size 41 #[.int .i64 p1,.int .i64 p2]:=by rw [hw0];exact Z6.new _ _ _
 have hs0:=(hs.below hb0).more hb0.size;obtain ⟨b,off,rfl,hb⟩:=VL hs0 (by omega);obtain ⟨a0,a1⟩:=X8 hs0 (k:=0) (by omega);obtain ⟨b0,b1⟩:=X8 hs0 (k:=1) (by omega);obtain ⟨c0,c1⟩:=X8 hs0 (k:=2) (by omega);have d0:w0.cell? ⟨w.heap.size,0,none⟩=some (.int .i64 p1):=B0.q0 rfl;have d1:w0.cell? ⟨w.heap.size,1,none⟩=some (.int .i64 p2):=B0.q1 rfl;have hg:=B0.lt
 have HO:Hid (∀ wk,Calls prog 237 #[.agg #[.int .i64 (Z5 ps 0).1,.int .i64 (Z5 ps 0).2],.agg #[.int .i64 (Z5 ps 1).1,.int .i64 (Z5 ps 1).2],.agg #[.int .i64 (Z5 ps 2).1,.int .i64 (Z5 ps 2).2],.agg #[.int .i64 p1,.int .i64 p2]] wk fun e w'=>e=.returned (.int .i64 (VR ps (p1,p2)))/\Below wk.heap.size wk w') :=
  hide fun wk=>zF _ _ _ _ _ _ _ _ (YI (Z5 ps 0) (Z5 ps 1) (Z5 ps 2) (p1,p2)) (ZM (Z5 ps 0) (Z5 ps 1) (Z5 ps 2)) _ (hps.at_ 0) (hps.at_ 1) (hps.at_ 2) hp (AX (Z5 ps 0) (Z5 ps 1) (Z5 ps 2) (p1,p2)) (AZ _ _ _) (by rw [UG];unfold VR;rw [if_pos hln]) wk
 generalize VR ps (p1,p2)=os at *;generalize Z5 ps 0=pa at *;generalize Z5 ps 1=pb at *;generalize Z5 ps 2=pc at *;obtain ⟨a,a'⟩:=pa;obtain ⟨b2,b'⟩:=pb;obtain ⟨c2,c'⟩:=pc;dsimp only at *;simp only [Nat.zero_mul,Nat.add_zero,Nat.one_mul,Nat.reduceMul] at a0 a1 b0 b1 c0 c1;have hbd:=ZU (Below.refl w0.heap.size w0);have HB0:=hide hb0;clear hs hs0 hps hln hp B0 hb0;go_enter func175,ntmps175;go_wp2;rw [<- hw0];have HW0:=hide hw0;clear hw0
 go_region_held3 (fun w'=>(Below w0.heap.size w0 w'/\w'.cell? ⟨b,off,none⟩=some (.int .i64 a)/\w'.cell? ⟨b,off+1,none⟩=some (.int .i64 a'))/\(w'.cell? ⟨b,off+2,none⟩=some (.int .i64 b2)/\w'.cell? ⟨b,off+2+1,none⟩=some (.int .i64 b'))/\(w'.cell? ⟨b,off+4,none⟩=some (.int .i64 c2)/\w'.cell? ⟨b,off+4+1,none⟩=some (.int .i64 c'))/\w'.cell? ⟨w.heap.size,0,none⟩=some (.int .i64 p1)/\w'.cell? ⟨w.heap.size,1,none⟩=some (.int .i64 p2))
  (first|exact ⟨⟨hbd,a0,a1⟩,⟨b0,b1⟩,⟨c0,c1⟩,d0,d1⟩|exact ⟨⟨Z9 hbd (by assumption),(hb1.cell (p:=⟨b,_,none⟩) hb).trans a0,(hb1.cell (p:=⟨b,_,none⟩) hb).trans a1⟩,⟨(hb1.cell (p:=⟨b,_,none⟩) hb).trans b0,(hb1.cell (p:=⟨b,_,none⟩) hb).trans b1⟩,⟨(hb1.cell (p:=⟨b,_,none⟩) hb).trans c0,(hb1.cell (p:=⟨b,_,none⟩) hb).trans c1⟩,(hb1.cell (p:=⟨_,_,none⟩) hg).trans d0,(hb1.cell (p:=⟨_,_,none⟩) hg).trans d1⟩)
  (first
    | (go_at_call 237;((with_reducible refine (HO.out _).mono ?_);rintro e w' ⟨rfl,hb1⟩)))
 all_goals
  go_wp2;go_ret;exact ⟨rfl,Z9 HB0.out (Z9 hbd hb1)⟩
theorem Dx(ps:List Pt)(hps:Ub ps)(p:Pt)(hp:PJ p)(A:Option Addr)(c:Nat)(w:World)(hs:Sl w w.heap.size A (Zg ps)):
 Calls prog 175 #[.slice A ps.length c,Mh p] w fun e w'=>e=.returned (.int .i64 (VR ps p))/\Below w.heap.size w w':=by
 by_cases h3:ps.length=3
 · have h:=Dy ps hps h3 p hp A c w hs;rw [h3];exact h
 · have h3i:((ps.length:Nat):Int)≠3:=(by omega);have h3b:(((ps.length:Nat):Int) != 3)=true:=(by simp;omega);have HD:Hid (VR ps p=-1):=hide (by unfold VR;rw [if_neg h3]);clear hs hps hp;unfold Mh;go_enter func175,ntmps175;go_wp2;go_ret;exact ⟨by rw [HD.out];rfl,bA⟩
theorem SK(rs:List Rg)(m:Nat)(hm:rs.length=m)(A:Option Addr)(c:Nat)(w:World)(hs:Sl w w.heap.size A (rgCells rs)):
 Calls prog 19 #[.slice A m c] w fun e w'=>e=.returned (.int .i64 (Zi rs))/\w'=w:=by
 have HS:=hide hs;clear hs
 by_cases hc:m<1\/64<m
 · have hf:Zi rs=6:=(by unfold Zi;rw [if_pos (by omega)]);rw [hf];have hci:(m:Int)<1\/(¬ (m:Int)<1/\(64:Int)<(m:Int)):=(by omega);clear hf hc;rcases hci with h|⟨h,h2⟩
   · go_enter func19,ntmps19;go_wp2;go_ret;exact ⟨rfl,rfl⟩
   · go_enter func19,ntmps19;go_wp2;go_ret;exact ⟨rfl,rfl⟩
 · have hf:Zi rs=Y1 rs:=(by unfold Zi;rw [if_neg (by omega)]);rw [hf];have h1:¬ (m:Int)<1:=(by omega);have h2:¬ (64:Int)<(m:Int):=(by omega);have HM:=hide hm;clear hf hc hm;go_enter func19,ntmps19;go_wp2
   go_loopw [3,4] (fun i _ wr=>∃ k:Nat,k<=m/\i=.int .i64 k/\Hid (Y1 rs=Y1 (rs.drop k))/\wr=w)
    (fun i _ _=>m - (intOf i).toNat)
   case atStart=>exact ⟨0,Nat.zero_le _,rfl,hide (by simp),rfl⟩
   case round =>
    obtain ⟨k,hk,rfl,hF,hwr⟩:=hrel;subst hwr
    by_cases hlt:k<m
    · obtain ⟨r,hr⟩:∃ r,rs[k]?=some r:=⟨_,List.getElem?_eq_getElem (by have:=HM.out;omega)⟩;obtain ⟨b,off,rfl,hB,c0,c1,c2⟩:=HS.out.rg hr;have hD:=hide (hF.out.trans (PW rs k r hr));obtain ⟨d,v,A,n,c⟩:=r;dsimp only at *;have Va:=hide (XO v wr);obtain ⟨z,hz⟩:=eE (ZO v);rw [<- hz] at hD Va;clear hr hF hz
      by_cases h0:z=0
      · have hD':Hid (Y1 rs=7):=hide (hD.out.trans (if_pos h0));clear hD;subst h0;go_wp2_with fail;refine Va.out.mono ?_;rintro e w2 ⟨rfl,hw2⟩;rw [<- hw2];clear hw2;go_wp2;go_ret;exact ⟨by rw [hD'.out];rfl,rfl⟩
      · have h0i:(z == 0)=false:=by simp [h0]
        by_cases hn:z=(n:Int)
        · have hD':Hid (Y1 rs=Y1 (rs.drop (k+1))):=hide (hD.out.trans ((if_neg h0).trans (if_pos hn)));clear hD;subst hn;go_wp2_with fail;refine Va.out.mono ?_;rintro e w2 ⟨rfl,hw2⟩;rw [<- hw2];clear hw2;go_wp2;go_roundw
          case rel=>exact ⟨k+1,by omega,by go_num,hD',trivial⟩
          case measure=>simp [intOf];omega
        · have hD':Hid (Y1 rs=8):=hide (hD.out.trans ((if_neg h0).trans (if_neg hn)));have hni:((n:Int) != z)=true:=bne_iff_ne.2 (fun h=>hn h.symm);have zmt:(n:Int)≠z:=fun h=>hn h.symm;clear hD;go_wp2_with fail;refine Va.out.mono ?_;rintro e w2 ⟨rfl,hw2⟩;rw [<- hw2];clear hw2;go_wp2;go_ret;exact ⟨by rw [hD'.out];rfl,rfl⟩
    · obtain rfl:k=m:=(by omega);go_wp2;go_ret;have h:=hF.out;rw [List.drop_of_length_le (by have:=HM.out;omega)] at h;exact ⟨by rw [h];rfl,rfl⟩
theorem Ox(rs:List Rg)(A:Option Addr)(c:Nat)(w:World)(hs:Sl w w.heap.size A (rgCells rs)):
 Calls prog 19 #[.slice A rs.length c] w fun e w'=>e=.returned (.int .i64 (Zi rs))/\w'=w:=SK rs _ rfl A c w hs
theorem PX:∀ {rs:List Rg},Y1 rs=0->∀ r∈rs,(r.v=0\/3<=r.v/\r.v<=64)/\ZO r.v=(r.n:Int)
 | [],_,r,h=>by simp at h
 | x::rs,h0,r,h=>by
   unfold Y1 at h0;split at h0
   · omega
   · rename_i h1
     split at h0
     · rename_i h2
       rcases List.mem_cons.1 h with rfl|h
       · refine ⟨?_,h2⟩;unfold ZO at h1;split at h1
         · exact .inl (by assumption)
         · split at h1
           · exact .inr (by assumption)
           · omega
       · exact PX h0 r h
     · omega
theorem Fj{rs:List Rg}(h:Zi rs=0):∀ r∈rs,(r.v=0\/3<=r.v/\r.v<=64)/\ZO r.v=(r.n:Int):=by
 unfold Zi at h;split at h
 · omega
 · exact PX h
theorem JJ{rs:List Rg}(h:Zi rs=0):rs.length<=64:=by
 unfold Zi at h;split at h <;> omega
def xB(w:World)(gs:List Gr):Prop:=∀ g∈gs,g.1.n=g.2.length/\Sl w w.heap.size g.1.A (Zg g.2)/\Ub g.2
theorem xB.step{w w':World}{gs:List Gr}(h:xB w gs)(hb:Below w.heap.size w w'):xB w' gs:=fun g hg=>⟨(h g hg).1,((h g hg).2.1.below hb).more hb.size,(h g hg).2.2⟩
theorem sI{gs:List Gr}{k:Nat}{g:Gr}(h:gs[k]?=some g)(hb:KR g.1.v g.2=false):Te gs=false:=by
 have e:∀ (l:List Gr) (b:Bool),l.foldl (fun b g=>b && KR g.1.v g.2) b=(b && l.all fun g=>KR g.1.v g.2):=by
  intro l
  induction l with
  | nil=>intro b;simp
  | cons x l ih=>intro b;rw [List.foldl_cons,ih,List.all_cons,Bool.and_assoc]
 unfold Te;rw [e,Bool.true_and,List.all_eq_false];exact ⟨g,List.mem_of_getElem? h,by rw [hb];simp⟩
theorem Az{gs:List Gr}{k:Nat}{g:Gr}(h:gs[k]?=some g):(gs.map (·.1))[k]?=some g.1:=by rw [List.getElem?_map,h];rfl
theorem Gq(gs:List Gr)(m:Nat)(hm:gs.length=m)(GA:Option Addr)(gc:Nat)(w:World)(hs:Sl w w.heap.size GA (rgCells (gs.map (·.1))))(hgs:xB w gs):
 Calls prog 84 #[.slice GA m gc] w fun e w'=>e=.returned (.bool (Zc gs))/\Below w.heap.size w w':=by
 have HC:=SK (gs.map (·.1)) m (by simpa using hm) GA gc w hs
 by_cases hc:Zi (gs.map (·.1))=0
 · have hF:Zc gs=Te gs:=(by unfold Zc;simp [hc]);have hz:=Fj hc;have zpm:m<=64:=by
    have h:=JJ hc;rw [List.length_map,hm] at h;exact h
   rw [hF];rw [hc] at HC;have HD:Hid (∀ (ps:List Pt) (A:Option Addr) (c:Nat) (wk:World),Ub ps->Sl wk wk.heap.size A (Zg ps)->Calls prog 126 #[.slice A ps.length c] wk fun e w'=>e=.returned (.bool (Xu ps))/\Below wk.heap.size wk w'):=hide fun ps A c wk h1 h2=>Mk ps h1 A c wk h2;have HP:Hid (∀ (ps:List Pt) (A:Option Addr) (c:Nat) (wk:World),Ub ps->Sl wk wk.heap.size A (Zg ps)->Calls prog 82 #[.slice A ps.length c] wk fun e w'=>e=.returned (.bool (YB ps))/\Below wk.heap.size wk w'):=hide fun ps A c wk h1 h2=>MB ps h1 A c wk h2;have HZ:=hide hz;have kQ:=hide HC;have HS:=hide hs;have HG:=hide hgs;have HM:=hide hm;clear hz HC hc hF hs hgs hm;go_enter func84,ntmps84;go_wp2_with fail;refine kQ.out.mono ?_;rintro e w1 ⟨rfl,hw1⟩;rw [hw1];clear hw1;go_wp2
   go_loopw [3] (fun u wr=>∃ k:Nat,k<=m/\u=.int .i64 k/\Hid (Te (gs.take k)=true)/\Below w.heap.size w wr)
    (fun u _=>m - (intOf u).toNat)
   case atStart=>exact ⟨0,by omega,rfl,hide rfl,Below.refl _ _⟩
   case round =>
    obtain ⟨k,hk,rfl,HK,hbr⟩:=hrel
    by_cases h:k<m
    · obtain ⟨g,hg⟩:∃ g,gs[k]?=some g:=⟨_,List.getElem?_eq_getElem (by have:=HM.out;omega)⟩;obtain ⟨b,off,rfl,hB,c0,c1,c2⟩:=(HS.out.below hbr).rg (Az hg);obtain ⟨gn,gsl,gpj⟩:=(HG.out.step hbr) g (List.mem_of_getElem? hg);obtain ⟨hv,_⟩:=HZ.out g.1 (List.mem_map.2 ⟨g,List.mem_of_getElem? hg,rfl⟩);have htake:=JM hg;have hbad:=fun hb=>sI hg hb;rw [HK.out,Bool.true_and] at htake;obtain ⟨⟨d,v,A,n,c⟩,ps⟩:=g;dsimp only at *;subst gn;have HD1:=hide (HD.out ps A c wr gpj gsl);have Nj:=hide (HP.out ps A c wr gpj gsl);have HT:=hide htake;have Wp:=hide hbad;clear hg gsl gpj htake hbad
      by_cases h0:v=0
      · subst h0;have hro:KR 0 ps=Xu ps:=rfl;cases hd:Xu ps
        · have HF:Hid (Te gs=false):=hide (Wp.out (by rw [hro,hd]));rw [hd] at HD1;clear HT Wp hro Nj;go_wp2_with fail;refine HD1.out.mono ?_;rintro e w2 ⟨rfl,hb2⟩;go_wp2;go_ret;exact ⟨by rw [HF.out];rfl,Z9 hbr hb2⟩
        · have HN:Hid (Te (gs.take (k+1))=true):=hide (by rw [HT.out,hro,hd]);rw [hd] at HD1;have Ru:Hid (∀ w2:World,Below wr.heap.size wr w2->w2.cell? ⟨b,off+k*3+1,none⟩=some (.int .i64 0)):=hide fun w2 hb=>(hb.cell (p:=⟨_,_,none⟩) (Zv c1)).trans c1;clear HT Wp hro Nj;go_wp2_with fail;refine HD1.out.mono ?_;rintro e w2 ⟨rfl,hb2⟩;have c1':=Ru.out _ hb2;go_wp2;go_roundw
          case rel=>exact ⟨k+1,by omega,by go_num,HN,Z9 hbr hb2⟩
          case measure=>simp [intOf];omega
      · have hv3:0<v:=(by omega);have h0b:(v == 0)=false:=(by simp [h0]);have hro:KR v ps=YB ps:=(by unfold KR;rw [if_neg h0]);cases hd:YB ps
        · have HF:Hid (Te gs=false):=hide (Wp.out (by rw [hro,hd]));rw [hd] at Nj;clear HT Wp hro HD1;go_wp2_with fail;refine Nj.out.mono ?_;rintro e w2 ⟨rfl,hb2⟩;go_wp2;go_ret;exact ⟨by rw [HF.out];rfl,Z9 hbr hb2⟩
        · have HN:Hid (Te (gs.take (k+1))=true):=hide (by rw [HT.out,hro,hd]);rw [hd] at Nj;clear HT Wp hro HD1;go_wp2_with fail;refine Nj.out.mono ?_;rintro e w2 ⟨rfl,hb2⟩;go_wp2;go_roundw
          case rel=>exact ⟨k+1,by omega,by go_num,HN,Z9 hbr hb2⟩
          case measure=>simp [intOf];omega
    · obtain rfl:k=m:=(by omega);have HF:Hid (Te gs=true):=hide (by have h:=HK.out;rw [List.take_of_length_le (by have:=HM.out;omega)] at h;exact h);go_wp2;go_ret;exact ⟨by rw [HF.out];rfl,hbr⟩
 · have hF:Zc gs=false:=(by unfold Zc;simp [hc]);rw [hF];generalize Zi (gs.map (·.1))=q at *;have hq:(q != 0)=true:=bne_iff_ne.2 hc;have kQ:=hide HC;clear HC hF hs hgs hm;go_enter func84,ntmps84;go_wp2_with fail;refine kQ.out.mono ?_;rintro e w1 ⟨rfl,hw1⟩;rw [hw1];clear hw1;go_wp2;go_ret;exact ⟨rfl,Below.refl _ _⟩
theorem SN(gs:List Gr)(GA:Option Addr)(gc:Nat)(w:World)(hs:Sl w w.heap.size GA (rgCells (gs.map (·.1))))(hgs:xB w gs):
 Calls prog 84 #[.slice GA gs.length gc] w fun e w'=>e=.returned (.bool (Zc gs))/\Below w.heap.size w w':=Gq gs _ rfl GA gc w hs hgs
theorem Jf(d:Bool)(v:Int)(ps:List Pt)(hps:Ub ps)(p:Pt)(hp:PJ p)(A:Option Addr)(c:Nat)(w:World)(hs:Sl w w.heap.size A (Zg ps)):
 Calls prog 127 #[.agg #[.bool d,.int .i64 v,.slice A ps.length c],Mh p] w fun e w'=>e=.returned (.int .i64 (Jd v ps p))/\Below w.heap.size w w':=by
 obtain ⟨p1,p2⟩:=p;have HD:Hid (∀ (wk:World),Below w.heap.size w wk->Calls prog 175 #[.slice A ps.length c,.agg #[.int .i64 p1,.int .i64 p2]] wk fun e w'=>e=.returned (.int .i64 (VR ps (p1,p2)))/\Below wk.heap.size wk w'):=hide fun wk h=>Dx ps hps (p1,p2) hp A c wk ((hs.below h).more h.size);have HP:Hid (∀ (wk:World),Below w.heap.size w wk->Calls prog 83 #[.slice A ps.length c,.agg #[.int .i64 p1,.int .i64 p2]] wk fun e w'=>e=.returned (.int .i64 (UL ps (p1,p2)))/\Below wk.heap.size wk w'):=hide fun wk h=>Oy ps hps (p1,p2) hp A c wk ((hs.below h).more h.size);unfold Mh;have hbb:Below w.heap.size w ((w.alloc (.cells #[.bool d,.int .i64 v,.slice A ps.length c] 38)).alloc (.cells #[.int .i64 p1,.int .i64 p2] 41)):=Z7 (bA) _;have HB:=hide hbb;clear hps hp hs hbb
 by_cases h0:v=0
 · subst h0;have HR:Hid (Jd 0 ps (p1,p2)=VR ps (p1,p2)):=hide rfl;clear HP;go_enter func127,ntmps127;go_wp2_with fail;refine (HD.out _ HB.out).mono ?_;rintro e w1 ⟨rfl,hb1⟩;go_wp2;go_ret;exact ⟨by rw [HR.out];rfl,Z9 HB.out hb1⟩
 · have h0b:(v == 0)=false:=(by simp [h0]);have HR:Hid (Jd v ps (p1,p2)=UL ps (p1,p2)):=hide (by unfold Jd;rw [if_neg h0]);clear HD;go_enter func127,ntmps127;go_wp2_with fail;refine (HP.out _ HB.out).mono ?_;rintro e w1 ⟨rfl,hb1⟩;go_wp2;go_ret;exact ⟨by rw [HR.out];rfl,Z9 HB.out hb1⟩
theorem y7{p:Pt}{gs:List Gr}{k:Nat}{g:Gr}(h:gs[k]?=some g)(hd:g.1.d=true)(hl:0<=Jd g.1.v g.2 p):(Wq p gs).2=true:=by
 have mono:∀ (l:List Gr) (s:Bool × Bool),s.2=true->(l.foldl (fun s g=>bif g.1.d then (s.1,s.2 || !decide (Jd g.1.v g.2 p<0)) else (s.1 || !decide (Jd g.1.v g.2 p<0),s.2)) s).2=true:=by
  intro l
  induction l with
  | nil=>intro s hs;exact hs
  | cons x l ih =>
    intro s hs;rw [List.foldl_cons];apply ih;cases x.1.d <;> simp [hs]
 have h1:=Pk p h;rw [hd,cond_true] at h1;have h2:(Wq p (gs.take (k+1))).2=true:=by
  rw [h1];simp [show ¬ Jd g.1.v g.2 p<0 by omega]
 unfold Wq;rw [<- List.take_append_drop (k+1) gs,List.foldl_append];exact mono _ _ h2
theorem Gv(gs:List Gr)(m:Nat)(hm:gs.length=m)(p:Pt)(hp:PJ p)(GA:Option Addr)(gc:Nat)(w:World)(hs:Sl w w.heap.size GA (rgCells (gs.map (·.1))))(hgs:xB w gs):
 Calls prog 85 #[.slice GA m gc,Mh p] w fun e w'=>e=.returned (.bool (XZ gs p))/\Below w.heap.size w w':=by
 obtain ⟨p1,p2⟩:=p;unfold Mh;obtain ⟨w0,hw0⟩:=eE (w.alloc (.cells #[.int .i64 p1,.int .i64 p2] 41));have hb0:=bE hw0;have B0:Z6 w0 w.heap.size 41 #[.int .i64 p1,.int .i64 p2]:=by rw [hw0];exact Z6.new _ _ _
 have hs0:=(hs.below hb0).more hb0.size;have hgs0:=hgs.step hb0;have HC:=SK (gs.map (·.1)) m (by simpa using hm) GA gc w0 hs0
 by_cases hc:Zi (gs.map (·.1))=0
 · have hF:XZ gs (p1,p2)=((Wq (p1,p2) gs).1 && !(Wq (p1,p2) gs).2):=(by unfold XZ;simp [hc]);have zpm:m<=64:=by
    have h:=JJ hc;rw [List.length_map,hm] at h;exact h
   rw [hF];rw [hc] at HC;have HL:Hid (∀ (d:Bool) (v:Int) (ps:List Pt) (A:Option Addr) (c:Nat) (wk:World),Ub ps->Sl wk wk.heap.size A (Zg ps)->Calls prog 127 #[.agg #[.bool d,.int .i64 v,.slice A ps.length c],.agg #[.int .i64 p1,.int .i64 p2]] wk fun e w'=>e=.returned (.int .i64 (Jd v ps (p1,p2)))/\Below wk.heap.size wk w'):=hide fun d v ps A c wk h1 h2=>Jf d v ps h1 (p1,p2) hp A c wk h2;have kQ:=hide HC;have HS:=hide hs0;have HG:=hide hgs0;have HM:=hide hm;have HB0:=hide hb0;have NH:=hide B0;clear HC hc hF hs hgs hm hs0 hgs0 hb0 B0 hp;go_enter func85,ntmps85;go_wp2_with fail;rw [<- hw0];clear hw0;refine kQ.out.mono ?_;rintro e w1 ⟨rfl,hw1⟩;rw [hw1];clear hw1;go_wp2
   go_loopw [5,6] (fun u5 u6 wr=>∃ (k:Nat) (x:Bool),k<=m/\u6=.int .i64 k/\u5=.bool x/\Hid (Wq (p1,p2) (gs.take k)=(x,false))/\Below w0.heap.size w0 wr)
    (fun _ u6 _=>m - (intOf u6).toNat)
   case atStart=>exact ⟨0,false,by omega,rfl,rfl,hide rfl,Below.refl _ _⟩
   case round =>
    obtain ⟨k,x,hk,rfl,rfl,HK,hbr⟩:=hrel
    by_cases h:k<m
    · obtain ⟨g,hg⟩:∃ g,gs[k]?=some g:=⟨_,List.getElem?_eq_getElem (by have:=HM.out;omega)⟩;obtain ⟨b,off,rfl,hB,c0,c1,c2⟩:=(HS.out.below hbr).rg (Az hg);obtain ⟨gn,gsl,gpj⟩:=(HG.out.step hbr) g (List.mem_of_getElem? hg);have htake:=Pk (p1,p2) hg;have hden:=fun a b=>y7 (p:=(p1,p2)) hg a b;rw [HK.out] at htake;obtain ⟨⟨d,v,A,n,c⟩,ps⟩:=g;dsimp only at *;subst gn;have p0:wr.cell? ⟨w.heap.size,0,none⟩=some (.int .i64 p1):=(NH.out.step hbr).q0 rfl;have p0':wr.cell? ⟨w.heap.size,1,none⟩=some (.int .i64 p2):=(NH.out.step hbr).q1 rfl;have hki:(k:Int)<(m:Int):=(by omega);have hkl:w.heap.size<wr.heap.size:=Zv p0;have hbl:b<wr.heap.size:=Zv c0;have qo:Hid (∀ wk,Below wr.heap.size wr wk->Calls prog 127 #[.agg #[.bool d,.int .i64 v,.slice A ps.length c],.agg #[.int .i64 p1,.int .i64 p2]] wk fun e w'=>e=.returned (.int .i64 (Jd v ps (p1,p2)))/\Below wk.heap.size wk w'):=hide fun wk hb=>HL.out d v ps A c wk gpj ((gsl.below hb).more hb.size);have hF:(Wq (p1,p2) gs).2=true->((Wq (p1,p2) gs).1 && !(Wq (p1,p2) gs).2)=false:=fun h=>by rw [h];simp
      generalize Jd v ps (p1,p2)=z at *;have HT:=hide htake;have HDN:=hide hden;have Bh:=hide hF;have hbd:=ZU (Below.refl wr.heap.size wr);clear hg gsl gpj htake hden hF
      by_cases hz:0<=z
      · cases d
        · have HN:Hid (Wq (p1,p2) (gs.take (k+1))=(true,false)):=hide (by rw [HT.out];simp [show ¬ z<0 by omega]);clear HT HDN Bh;go_wp2
          go_region_held3 (fun w'=>(Below wr.heap.size wr w'/\w'.cell? ⟨b,off+k*3,none⟩=some (.bool false))/\w'.cell? ⟨b,off+k*3+1,none⟩=some (.int .i64 v)/\w'.cell? ⟨b,off+k*3+2,none⟩=some (.slice A ps.length c)/\w'.cell? ⟨w.heap.size,0,none⟩=some (.int .i64 p1)/\w'.cell? ⟨w.heap.size,1,none⟩=some (.int .i64 p2))
           (first|exact ⟨⟨hbd,c0⟩,c1,c2,p0,p0'⟩|exact ⟨⟨Z9 hbd (by assumption),(hb1.cell (p:=⟨b,_,none⟩) hbl).trans c0⟩,(hb1.cell (p:=⟨b,_,none⟩) hbl).trans c1,(hb1.cell (p:=⟨b,_,none⟩) hbl).trans c2,(hb1.cell (p:=⟨_,_,none⟩) hkl).trans p0,(hb1.cell (p:=⟨_,_,none⟩) hkl).trans p0'⟩)
           (first
             | (go_at_call 127;((with_reducible refine (qo.out _ hbd).mono ?_);rintro e w9 ⟨rfl,hb1⟩)))
          all_goals
           have hbw:=Z9 hbr (Z9 hbd hb1);have e0:w9.cell? ⟨b,off+k*3,none⟩=some (.bool false):=(hb1.cell (p:=⟨b,_,none⟩) hbl).trans c0;go_wp2;go_roundw
           case rel=>exact ⟨k+1,true,by omega,by go_num,rfl,HN,hbw⟩
           case measure=>simp [intOf];omega
        · have HN:Hid (((Wq (p1,p2) gs).1 && !(Wq (p1,p2) gs).2)=false):=hide (Bh.out (HDN.out rfl hz));clear HT HDN Bh;go_wp2
          go_region_held3 (fun w'=>(Below wr.heap.size wr w'/\w'.cell? ⟨b,off+k*3,none⟩=some (.bool true))/\w'.cell? ⟨b,off+k*3+1,none⟩=some (.int .i64 v)/\w'.cell? ⟨b,off+k*3+2,none⟩=some (.slice A ps.length c)/\w'.cell? ⟨w.heap.size,0,none⟩=some (.int .i64 p1)/\w'.cell? ⟨w.heap.size,1,none⟩=some (.int .i64 p2))
           (first|exact ⟨⟨hbd,c0⟩,c1,c2,p0,p0'⟩|exact ⟨⟨Z9 hbd (by assumption),(hb1.cell (p:=⟨b,_,none⟩) hbl).trans c0⟩,(hb1.cell (p:=⟨b,_,none⟩) hbl).trans c1,(hb1.cell (p:=⟨b,_,none⟩) hbl).trans c2,(hb1.cell (p:=⟨_,_,none⟩) hkl).trans p0,(hb1.cell (p:=⟨_,_,none⟩) hkl).trans p0'⟩)
           (first
             | (go_at_call 127;((with_reducible refine (qo.out _ hbd).mono ?_);rintro e w9 ⟨rfl,hb1⟩)))
          all_goals
           have hbw:=Z9 HB0.out (Z9 hbr (Z9 hbd hb1));have e0:w9.cell? ⟨b,off+k*3,none⟩=some (.bool true):=(hb1.cell (p:=⟨b,_,none⟩) hbl).trans c0;go_wp2;go_ret;exact ⟨by rw [HN.out];rfl,hbw⟩
      · have HN:Hid (Wq (p1,p2) (gs.take (k+1))=(x,false)):=hide (by rw [HT.out];cases d <;> simp [show z<0 by omega]);clear HT HDN Bh;go_wp2
        go_region_held3 (fun w'=>(Below wr.heap.size wr w'/\w'.cell? ⟨b,off+k*3,none⟩=some (.bool d))/\w'.cell? ⟨b,off+k*3+1,none⟩=some (.int .i64 v)/\w'.cell? ⟨b,off+k*3+2,none⟩=some (.slice A ps.length c)/\w'.cell? ⟨w.heap.size,0,none⟩=some (.int .i64 p1)/\w'.cell? ⟨w.heap.size,1,none⟩=some (.int .i64 p2))
         (first|exact ⟨⟨hbd,c0⟩,c1,c2,p0,p0'⟩|exact ⟨⟨Z9 hbd (by assumption),(hb1.cell (p:=⟨b,_,none⟩) hbl).trans c0⟩,(hb1.cell (p:=⟨b,_,none⟩) hbl).trans c1,(hb1.cell (p:=⟨b,_,none⟩) hbl).trans c2,(hb1.cell (p:=⟨_,_,none⟩) hkl).trans p0,(hb1.cell (p:=⟨_,_,none⟩) hkl).trans p0'⟩)
         (first
           | (go_at_call 127;((with_reducible refine (qo.out _ hbd).mono ?_);rintro e w9 ⟨rfl,hb1⟩)))
        all_goals
         have hbw:=Z9 hbr (Z9 hbd hb1);have e0:w9.cell? ⟨b,off+k*3,none⟩=some (.bool d):=(hb1.cell (p:=⟨b,_,none⟩) hbl).trans c0;go_wp2;go_roundw
         case rel=>exact ⟨k+1,x,by omega,by go_num,rfl,HN,hbw⟩
         case measure=>simp [intOf];omega
    · obtain rfl:k=m:=(by omega);have HF:Hid (((Wq (p1,p2) gs).1 && !(Wq (p1,p2) gs).2)=x):=hide (by have h:=HK.out;rw [List.take_of_length_le (by have:=HM.out;omega)] at h;rw [h];simp);go_wp2;go_ret;exact ⟨by rw [HF.out];rfl,Z9 HB0.out hbr⟩
 · have hF:XZ gs (p1,p2)=false:=(by unfold XZ;simp [hc]);rw [hF];generalize Zi (gs.map (·.1))=q at *;have hq:(q != 0)=true:=bne_iff_ne.2 hc;have kQ:=hide HC;have HB0:=hide hb0;clear HC hF hs hgs hm hs0 hgs0 hb0 B0 hp;go_enter func85,ntmps85;go_wp2_with fail;rw [<- hw0];clear hw0;refine kQ.out.mono ?_;rintro e w1 ⟨rfl,hw1⟩;rw [hw1];clear hw1;go_wp2;go_ret;exact ⟨rfl,HB0.out⟩
theorem Oz(gs:List Gr)(p:Pt)(hp:PJ p)(GA:Option Addr)(gc:Nat)(w:World)(hs:Sl w w.heap.size GA (rgCells (gs.map (·.1))))(hgs:xB w gs):
 Calls prog 85 #[.slice GA gs.length gc,Mh p] w fun e w'=>e=.returned (.bool (XZ gs p))/\Below w.heap.size w w':=Gv gs _ rfl p hp GA gc w hs hgs
end
end Go.Proofs.YthnenedoblncjaaGreatDoor