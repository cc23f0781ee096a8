/- Edges Locate -/
import Derived.LoopIn
import Derived.LoopNIn
import Derived.OwnWalkIn
import Derived.RangeFuncBound
import Derived.RangeFuncCalls
import Derived.RangeFuncLeaves
import Derived.RangeFuncNested
import Derived.Shelf.Abstract
import Derived.Shelf.RegionOpen
import Derived.TacticsInMore
import Derived.Test.YthnenedoblncjaaGreatDoorPkR17
set_option maxRecDepth 1000000
set_option maxHeartbeats 8000000
namespace Go.Proofs.YthnenedoblncjaaGreatDoor
open Go.Proofs.Tryz
open List (getElem_toArray getElem_cons_succ getElem_cons_zero setIfInBounds_toArray set_cons_zero set_cons_succ)
section
open Go.RowKit Go.Shelf
attribute [local go_sem] Oper.semAt_some
def Zy(n:Nat):Nat:=if 3<=n/\n<=64 then n else 0
def gP(ps:List Pt)(i:Nat):Array Value :=
 #[.agg #[.int .i64 (i:Int),.int .i64 (((i+1) % ps.length:Nat):Int),.int .i64 (ZX ps i).1,.int .i64 (ZX ps i).2,.int .i64 (ZX ps ((i+1) % ps.length)).1,.int .i64 (ZX ps ((i+1) % ps.length)).2]]
theorem xg(W:World):W.grownBy W.drew none:=⟨rfl,rfl,rfl,Nat.le_refl _,fun _ _ _=>rfl⟩
theorem AV(n:Nat)(l Bv:Nat)(ps:List Pt)(hn:¬ (3<=ps.length/\ps.length<=64))(A:Option Addr)(c:Nat)(W:World)(xq:W.cell? ⟨Bv,0,none⟩=some (.slice A ps.length c)):
 CallsIn Fence.wide n prog 304 #[.func (.yield l) #[] #[],.pointer (some ⟨Bv,0,none⟩)] W fun e W'=>(∃ v,e=.returned v)/\W'=W:=by
 refine callsIn_wide.2 ?_;have hc:((ps.length:Nat):Int)<3\/((64:Int)<((ps.length:Nat):Int)/\¬ ((ps.length:Nat):Int)<3):=by omega
 rcases hc with h|⟨h,h2⟩
 · go_enter func304,ntmps304;go_wp2;refine bodyPost_ret (results_none rfl _ _ _) rfl ?_;exact ⟨⟨_,rfl⟩,rfl⟩
 · go_enter func304,ntmps304;go_wp2;refine bodyPost_ret (results_none rfl _ _ _) rfl ?_;exact ⟨⟨_,rfl⟩,rfl⟩
theorem oJ (n:Nat) (hn1:1<=n) (l Bv:Nat) (PE:Nat->Prop) (ps:List Pt) (h3:3<=ps.length) (h64:ps.length<=64) (A:Option Addr) (c:Nat) (J Jx:List Nat->World->Prop) (W:World)
 (hJ:AbidesFrom W.heap.size J) (Lp:∀ k,PE k->k<W.heap.size) (hPB:PE Bv)
 (hY:∀ pre x W1,J pre W1->pre.length<Zy ps.length->YieldAt Fence.wide (n - 1) prog l (gP ps x) W1 fun e W' =>
   (e=.returned (.bool true)/\J (pre++[x]) W'/\Z9 PE W1 W')\/(e=.returned (.bool false)/\Jx (pre++[x]) W'))
 (xq:Z7 W Bv 36 #[.slice A ps.length c]) (hs:Wp W PE A (Zl ps)) (h0:J [] W) :
 CallsIn Fence.wide n prog 304 #[.func (.yield l) #[] #[],.pointer (some ⟨Bv,0,none⟩)] W fun e W'=>(∃ v,e=.returned v) /\
  ((∃ ys,ys=List.range (Zy ps.length)/\J ys W')\/(∃ pre,pre <+: List.range (Zy ps.length)/\Jx pre W')):=by
 have hE:Zy ps.length=ps.length:=by unfold Zy;rw [if_pos ⟨h3,h64⟩]
 rw [hE] at hY ⊢;have g3:¬ ((ps.length:Nat):Int)<3:=by omega
 have g64:¬ (64:Int)<((ps.length:Nat):Int):=by omega
 have cv:=xq.q0 rfl;have HY:=hide hY;have HJ:=hide hJ;clear hY hJ;refine callsIn_of_wp func304 rfl trivial ?_ rfl;simp only [ntmps304,List.size_toArray,List.length_cons,List.length_nil,Nat.reduceAdd,Nat.reduceSub,Array.replicate_succ,Array.replicate_zero,List.push_toArray,List.append_toArray,List.nil_append,List.cons_append];gi_wp2
 gi_loopw [16] (fun i wr=>∃ k:Nat,k<=ps.length/\i=.int .i64 k/\J (List.range k) wr/\Z9 PE W wr)
  (fun i _=>ps.length - (intOf i).toNat)
 case atStart=>exact ⟨0,Nat.zero_le _,rfl,h0,Z9.refl _ _⟩
 case round =>
  obtain ⟨k,hk,rfl,hJs,hkp⟩:=hrel
  by_cases hlt:k<ps.length
  · have cvr:wr.cell? ⟨Bv,0,none⟩=some (.slice A ps.length c):=(xq.kept hkp hPB).q0 rfl;have hsr:=(hs.kept hkp).sl Lp;have Nv:((k:Nat):Int)<((ps.length:Nat):Int):=(by omega);obtain ⟨nx,hnx⟩:=eE ((k+1) % ps.length);have hnl:nx<ps.length:=(by rw [hnx];exact Nat.mod_lt _ (by omega));have yzv:((nx:Nat):Int)<((ps.length:Nat):Int):=(by omega);have hm:((k:Int)+1) % ((ps.length:Nat):Int)=(nx:Int):=(by rw [hnx];rfl);obtain ⟨b,off,rfl,hb⟩:=FU hsr (by omega);obtain ⟨a0,a1⟩:=M4 hsr hlt;obtain ⟨b0,b1⟩:=M4 hsr hnl;have hJd:J (List.range k) wr.drew:=HJ.out _ _ _ none hJs (xg wr) (fun r e=>by cases e);obtain ⟨fn,tmps,assign,body,hy,hR⟩:=HY.out (List.range k) k wr.drew hJd (by simpa using hlt);unfold gP at hy;rw [<- hnx] at hy
    have hR2:=hide (hR.mono (R':=fun e W'=>∃ r,e=.returned (.bool r)/\(r=true->J (List.range (k+1)) W'/\Z9 PE wr W')/\(r=false->Jx (List.range (k+1)) W')) (by
     rintro e W' (⟨rfl,h1,h2⟩|⟨rfl,h1⟩)
     · exact ⟨true,rfl,fun _=>⟨by rw [List.range_succ];exact h1,(Z9.drew PE wr).trans h2⟩,fun h=>by cases h⟩
     · exact ⟨false,rfl,(fun h=>by cases h),fun _=>by rw [List.range_succ];exact h1⟩))
    generalize hpk:ZX ps k=pk at *;generalize hpn:ZX ps nx=pn at *;obtain ⟨x1,y1⟩:=pk;obtain ⟨x2,y2⟩:=pn;have zgt:(nx:Int)*2=((nx*2:Nat):Int):=(by omega);clear hR hJd hJs hpk hpn hsr hnx zgt;dsimp only at *;have Yv:prog.follows .mixedOrders=true:=(by kernel_rfl);have hpre:List.range (k+1) <+: List.range ps.length:=by
     have e:List.range (k+1)=(List.range ps.length).take (k+1):=(by rw [List.take_range,Nat.min_eq_left (by omega)]);rw [e];exact List.take_prefix _ _
    gi_wp2;rw [hm]
    gi_region_with_o (refine hR2.out.mono ?_;rintro e W3 ⟨r,rfl,hr1,hr2⟩)
    all_goals
     have HR1:=hide hr1;have HR2:=hide hr2;clear hr1 hr2 hy hR2;cases r with
     | false =>
       gi_wp2;refine bodyPost_ret (results_none rfl _ _ _) rfl ?_;exact ⟨⟨_,rfl⟩,.inr ⟨List.range (k+1),hpre,by simpa using HR2.out⟩⟩
     | true =>
       gi_wp2;go_roundw
       case rel=>exact ⟨k+1,by omega,by go_num,(HR1.out rfl).1,hkp.trans (HR1.out rfl).2⟩
       case measure=>simp [intOf];omega
  · obtain rfl:k=ps.length:=(by omega);gi_wp2;go_end0;exact ⟨⟨_,rfl⟩,.inl ⟨_,rfl,hJs⟩⟩
theorem Mv(n:Nat)(hn1:1<=n)(Bv:Nat)(PE:Nat->Prop)(ps:List Pt)(A:Option Addr)(c:Nat)(w:World)(Lp:∀ k,PE k->k<w.heap.size)(hPB:PE Bv)(xq:Z7 w Bv 36 #[.slice A ps.length c])(hs:Wp w PE A (Zl ps)):
 SeqStopsK Fence.wide n prog 304 #[.pointer (some ⟨Bv,0,none⟩)] (gP ps) (Z9 PE) (fun ys=>ys=List.range (Zy ps.length)) (fun pre=>pre <+: List.range (Zy ps.length)) (Zy ps.length) w:=by
 intro l J Jx W hW hJ _ hY h0;have hk:Z9 PE w W:=Z9.of_below hW Lp;have hB:Z7 W Bv 36 #[.slice A ps.length c]:=xq.step hW
 by_cases h:3<=ps.length/\ps.length<=64
 · exact oJ n hn1 l Bv PE ps h.1 h.2 A c J Jx W hJ (fun k hp=>Nat.lt_of_lt_of_le (Lp k hp) hW.size) hPB hY hB (hs.kept hk) h0
 · refine (AV n l Bv ps h A c W (hB.q0 rfl)).mono ?_;rintro e W' ⟨hv,rfl⟩;exact ⟨hv,.inl ⟨[],by unfold Zy;rw [if_neg h];rfl,h0⟩⟩
theorem Gu(v:Value)(A:Option Addr)(n c:Nat)(hv:v=.slice A n c)(w:World):
 Calls prog 258 #[v] w fun e w'=>e=.returned (.func (.func 304) #[] #[.pointer (some ⟨w.heap.size,0,none⟩)])/\w'=w.alloc (.cells #[.slice A n c] 36):=by
 subst hv;go_enter func258,ntmps258;go_wp2;go_ret;exact ⟨rfl,rfl⟩
end
section
open Go.RowKit Go.Shelf
attribute [local go_sem] Oper.semAt_some
theorem XR{β:Type}(B:Nat)(t:TypeId)(f:β->Array Value):Own (fun s W=>Z7 W B t (f s)):=fun s X Y row hs hg hrow =>
 (hg.block B hs.lt (fun e'=>by obtain ⟨o,ho,hc⟩:=hrow B e'.symm;rw [show X.heap[B]?=_ from hs] at ho;cases ho;cases hc)).trans hs
theorem KeepsFrom.of_below{B:Nat}{W W':World}(h:Below W.heap.size W W'):KeepsFrom B W W' :=
 ⟨h.size,fun k _ _ hk _=>(h.block k (Array.getElem?_eq_some_iff.1 hk).1).trans hk⟩
def Sw(s:Int)(ps:List Pt)(p:Pt)(i:Nat):Int:=s*(Zw (ZX ps i) (ZX ps ((i+1) % ps.length)) p).sign
def Xg(s:Int)(ps:List Pt)(p:Pt)(pre:List Nat):Bool × Bool :=
 pre.foldl (fun st i=>((bif decide (i=0) then false else st.1) || decide (Sw s ps p i<0),st.2 || decide (Sw s ps p i=0))) (true,false)
theorem qw(s:Int)(ps:List Pt)(p:Pt)(pre:List Nat)(i:Nat):Xg s ps p (pre++[i]) =
 ((bif decide (i=0) then false else (Xg s ps p pre).1) || decide (Sw s ps p i<0),(Xg s ps p pre).2 || decide (Sw s ps p i=0)):=by
 simp [Xg]
def Fx(ps:List Pt)(p:Pt):Int:=KY (Xg (Z4 ps) ps p (List.range (Zy ps.length))).1 (Xg (Z4 ps) ps p (List.range (Zy ps.length))).2
theorem Ro(a b:Bool):bits BinOp.or IntKind.u64 (ZH a) (ZH b)=ZH (a || b):=by cases a <;> cases b <;> decide
theorem Tg(ps:List Pt):(Z4 ps).sign=Z4 ps:=by
 unfold Z4;split
 · exact Int.sign_sign
 · rfl
theorem zi(ps:List Pt)(p:Pt)(i:Nat):IntKind.i64.wrap (Z4 ps*(Zw (ZX ps i) (ZX ps ((i+1) % ps.length)) p).sign)=Sw (Z4 ps) ps p i:=by
 have h:=Qn (Z4 ps) (Zw (ZX ps i) (ZX ps ((i+1) % ps.length)) p);rw [Tg] at h;exact h
theorem lU(ps:List Pt)(p:Pt)(i:Nat):-1<=Sw (Z4 ps) ps p i/\Sw (Z4 ps) ps p i<=1:=by
 unfold Sw;rw [<- Tg];rcases W9 (Z4 ps) with h|h|h <;> rcases W9 (Zw (ZX ps i) (ZX ps ((i+1) % ps.length)) p) with h'|h'|h' <;> rw [h,h'] <;> decide
theorem V3{x:Int}(h0:-1<=x)(h1:x<=1):(0<=IntKind.u64.wrap x/\IntKind.u64.wrap x<18446744073709551616)/\decide (IntKind.u64.wrap x=0)=decide (x=0):=by
 have h:x=-1\/x=0\/x=1:=by omega
 rcases h with rfl|rfl|rfl <;> decide
def Also(P:Nat->Prop)(b k:Nat):Prop:=P k\/k=b
theorem Ao{F:Nat}{a b d:Value}{k:IntKind}{x y:Int}{w:World}{R:Ending->World->Prop}(h:Calls prog F #[a,b,.int k x,d] w R)(e:y=x):Calls prog F #[a,b,.int k y,d] w R:=by rw [e];exact h
def Yo(pre:List Nat):List Ev:=pre.map fun (i:Nat)=>(5,(i:Int),0)
theorem MW.kept{w w':World}{P:Nat->Prop}(h:MW w)(hk:Z9 P w w')(h0:P 8):MW w':=⟨⟨(hk.cell h0 _).trans h.1.1,(hk.cell h0 _).trans h.1.2⟩,Nat.lt_of_lt_of_le h.2 hk.size⟩
theorem Ky(P:Nat->Prop)(t:Option (Nat × Nat))(es:List Ev)(ps:List Pt)(hps:LW ps)(hn:ps.length<=10000)(A:Option Addr)(c:Nat)(p:Pt)(hp:PJ p)(w:World)(hP:∀ k,P k->k<w.heap.size)(hg0:P 8)(hs:Wp w P A (Zl ps))(hw:MW w)(ht:Tp w P t es)(hl:es.length<=900000):
 Calls prog 194 #[.pointer (ZG t),.slice A ps.length c,.agg #[.int .i64 p.1,.int .i64 p.2]] w fun e w'=>e=.returned (.int .i64 (Fx ps p))/\Z9 P w w'/\Tp w' P t (es++Yo (List.range (Zy ps.length))):=by
 obtain ⟨w0,hw0⟩:=eE ((w.alloc (.cells #[.pointer (ZG t)] 193)).alloc (.cells #[.int .i64 p.1,.int .i64 p.2] 41));have hb0:=bF hw0;have T0:Z7 w0 w.heap.size 193 #[.pointer (ZG t)]:=by rw [hw0];exact (Z7.new _ _ _).alloc _
 have P0:Z7 w0 (w.heap.size+1) 41 #[.int .i64 p.1,.int .i64 p.2]:=by rw [hw0];exact Z7.new2 _ _ _ _
 have dZ:=hide (Sv ps hps hn A c w0 (((hs.sl hP).below hb0).more hb0.size) (hw.step hb0));refine (callsIn_wide (n:=6)).1 ?_;refine callsIn_of_wp_marks func194 rfl trivial ?_ rfl;simp only [ntmps194,List.size_toArray,List.length_cons,List.length_nil,Nat.reduceAdd,Nat.reduceSub,Array.replicate_succ,Array.replicate_zero,List.push_toArray,List.append_toArray,List.nil_append,List.cons_append];gi_wp2_with fail;rw [<- hw0];have HW0:=hide hw0;clear hw0;refine ⟨trivial,?_⟩;refine (callsIn_wide.2 dZ.out).mono ?_;rintro e w1 ⟨rfl,hb1⟩;obtain ⟨g,hg⟩:=eE w1.heap.size;obtain ⟨w2,hw2⟩:=eE (w1.alloc (.cells #[.int .i64 (Z4 ps)] 2));gi_wp2_with fail;rw [<- hw2];have Eh:=hide (PV 1 (by omega) (by omega) w2);refine ⟨trivial,?_⟩;refine (callsIn_wide.2 Eh.out).mono ?_;rintro e w2' ⟨rfl,rfl⟩;gi_wp2_with fail;refine ⟨trivial,?_⟩;refine (callsIn_wide.2 (Gu _ A ps.length c rfl _)).mono ?_;rintro e w3 ⟨rfl,rfl⟩;have hs2:(((w1.alloc (.cells #[.int .i64 (Z4 ps)] 2)).alloc (.cells #[.int .u64 (ZH true)] 44)).alloc (.cells #[.int .u64 0] 44)).heap.size=g+1+1+1:=by simp [hg]
 rw [hs2];have G0:Z7 ((((w1.alloc (.cells #[.int .i64 (Z4 ps)] 2)).alloc (.cells #[.int .u64 (ZH true)] 44)).alloc (.cells #[.int .u64 0] 44)).alloc (.cells #[.slice A ps.length c] 36)) g 2 #[.int .i64 (Z4 ps)]:=by
  rw [hg];exact (((Z7.new _ _ _).alloc _).alloc _).alloc _
 have G1:Z7 ((((w1.alloc (.cells #[.int .i64 (Z4 ps)] 2)).alloc (.cells #[.int .u64 (ZH true)] 44)).alloc (.cells #[.int .u64 0] 44)).alloc (.cells #[.slice A ps.length c] 36)) (g+1) 44 #[.int .u64 (ZH true)]:=by
  rw [hg];exact ((Z7.new2 _ _ _ _).alloc _).alloc _
 have G2:Z7 ((((w1.alloc (.cells #[.int .i64 (Z4 ps)] 2)).alloc (.cells #[.int .u64 (ZH true)] 44)).alloc (.cells #[.int .u64 0] 44)).alloc (.cells #[.slice A ps.length c] 36)) (g+1+1) 44 #[.int .u64 0]:=by
  have h2:=(Z7.new ((w1.alloc (.cells #[.int .i64 (Z4 ps)] 2)).alloc (.cells #[.int .u64 (ZH true)] 44)) 44 #[.int .u64 0]).alloc (.cells #[.slice A ps.length c] 36);simp only [World.size_alloc,<- hg] at h2;exact h2
 have G3:Z7 ((((w1.alloc (.cells #[.int .i64 (Z4 ps)] 2)).alloc (.cells #[.int .u64 (ZH true)] 44)).alloc (.cells #[.int .u64 0] 44)).alloc (.cells #[.slice A ps.length c] 36)) (g+1+1+1) 36 #[.slice A ps.length c]:=by
  have h2:=Z7.new (((w1.alloc (.cells #[.int .i64 (Z4 ps)] 2)).alloc (.cells #[.int .u64 (ZH true)] 44)).alloc (.cells #[.int .u64 0] 44)) 36 #[.slice A ps.length c];rw [hs2] at h2;exact h2
 have hb4:Below w1.heap.size w1 ((((w1.alloc (.cells #[.int .i64 (Z4 ps)] 2)).alloc (.cells #[.int .u64 (ZH true)] 44)).alloc (.cells #[.int .u64 0] 44)).alloc (.cells #[.slice A ps.length c] 36)):=Z5 (Z5 (Z5 (bA) _) _) _;have hs4:((((w1.alloc (.cells #[.int .i64 (Z4 ps)] 2)).alloc (.cells #[.int .u64 (ZH true)] 44)).alloc (.cells #[.int .u64 0] 44)).alloc (.cells #[.slice A ps.length c] 36)).heap.size=g+4:=by simp [hg]
 obtain ⟨W4,um⟩:∃ W4,((((w1.alloc (.cells #[.int .i64 (Z4 ps)] 2)).alloc (.cells #[.int .u64 (ZH true)] 44)).alloc (.cells #[.int .u64 0] 44)).alloc (.cells #[.slice A ps.length c] 36))=W4:=⟨_,rfl⟩;rw [um] at G0 G1 G2 G3 hb4 hs4;gi_wp2_with fail;rw [<- hg];have hB4:Below w.heap.size w W4:=Z8 (Z8 hb0 hb1) hb4;have hgw:w.heap.size+2<=g:=by
  have h1:=hb1.size;have h2:w0.heap.size=w.heap.size+2:=by rw [HW0.out];simp
  omega
 have T4:=(T0.step hb1).step hb4;have P4:=(P0.step hb1).step hb4;have Lg:=hide hps;have HP:=hide hp;have HW:=hide hw;have HSL:=hide (hs.kept (Z9.of_below hB4 hP))
 have Lp:∀ k,Also P (g+1+1+1) k->k<W4.heap.size:=fun k hk=>by
  rcases hk with hk|hk
  · exact Nat.lt_of_lt_of_le (hP k hk) hB4.size
  · omega
 have IW:=ht.more hB4;have hmb:∀ u,t=some u->u.2<W4.heap.size:=fun u hu=>Nat.lt_of_lt_of_le (ht.zuk u hu) hB4.size;have hE1:¬ Also P (g+1+1+1) (g+1):=by
  rintro (h|h)
  · have:=hP _ h;omega
  · omega
 have hE2:¬ Also P (g+1+1+1) (g+1+1):=by
  rintro (h|h)
  · have:=hP _ h;omega
  · omega
 have hM:∀ k,w.heap.size<=k->k<g+4->More P w W4 k:=fun k h1 h2=>.inr ⟨h1,by omega⟩;have bZ:=hide (hM w.heap.size (by omega) (by omega));have bY:=hide (hM (w.heap.size+1) (by omega) (by omega));have HMS:=hide (hM g (by omega) (by omega));have mQ:=hide (hM (g+1) (by omega) (by omega));have HMN:=hide (hM (g+1+1) (by omega) (by omega));have HMV:=hide (hM (g+1+1+1) (by omega) (by omega));have hK0:Z9 P w W4:=Z9.of_below hB4 hP;have xu:∀ k,Also P (g+1+1+1) k->k<W4.heap.size/\k<W4.heap.size:=fun k hk=>⟨Lp k hk,Lp k hk⟩;have hPM:∀ k,More P w W4 k->k<W4.heap.size:=Yr hP hB4;have RO:=hide hE1;have HE2:=hide hE2;have Lf:=hide Lp;have Ga:=hide hmb;have HT4:=hide IW;have NV:=hide hK0;have eD:=hide xu;have HPM:=hide hPM;have Jp:=hide hg0;clear hE1 hE2 Lp hmb IW hM hK0 xu hPM hg0 ht hP;clear um hg hs2 Eh dZ T0 P0 hps hp hw hs hb0 hb1 hb4 HW0 hB4
 refine wpIn_rangeFunc_ownH rfl (by omega) (gf:=304) (lb:=#[.pointer (some ⟨g+1+1+1,0,none⟩)]) rfl trivial (enters_of func304 (by kernel_rfl) rfl)
  (Mv 5 (by omega) (g+1+1+1) (Also P (g+1+1+1)) ps A c W4 Lf.out (.inr rfl) G3 (HSL.out.mono fun k h=>.inl h)) Z9.trans (fun W l o o' hl _ _ _=>Z9.putObj o' (fun h=>by have:=Lf.out _ h;omega) W) (Below.refl _ _) (fun _=>rfl)
  (fun pre W=>(((Z7 W w.heap.size 193 #[.pointer (ZG t)]/\Z7 W (w.heap.size+1) 41 #[.int .i64 p.1,.int .i64 p.2])/\Z7 W g 2 #[.int .i64 (Z4 ps)])/\(Z7 W (g+1) 44 #[.int .u64 (ZH (Xg (Z4 ps) ps p pre).1)]/\Z7 W (g+1+1) 44 #[.int .u64 (ZH (Xg (Z4 ps) ps p pre).2)]))/\(Z9 (Also P (g+1+1+1)) W4 W/\Tp W (More P w W4) t (es++Yo pre)))
  (fun _ _ _=>False)
  (OwnFrom.and (OwnFrom.and (OwnFrom.and (OwnFrom.and (Own.from (XR _ _ _) _) (Own.from (XR _ _ _) _)) (Own.from (XR _ _ _) _)) (OwnFrom.and (Own.from (XR _ _ _) _) (Own.from (XR _ _ _) _))) (OwnFrom.and (Uk eD.out) (WY _ (More P w W4) t (fun pre=>es++Yo pre) Ga.out)))
  (fun _ _ _ _ _ hs _ _=>hs)
  ⟨⟨⟨⟨T4,P4⟩,G0⟩,G1,G2⟩,Z9.refl _ _,by simpa [Yo] using HT4.out⟩
  (fun x a' W=>∃ Bx es',g+1+1<Bx/\Tp W (Also (More P w W4) Bx) t es'/\Z7 W Bx 301 #[.int .i64 (x:Int),.int .i64 (((x:Int)+1) % (ps.length:Int)),.int .i64 (ZX ps x).1,.int .i64 (ZX ps x).2,.int .i64 (ZX ps ((x+1) % ps.length)).1,.int .i64 (ZX ps ((x+1) % ps.length)).2]/\a'={ tmps:=#[.pointer (ZG t),.slice A ps.length c,.agg #[.int .i64 p.1,.int .i64 p.2],.pointer (some ⟨w.heap.size,0,none⟩),undef,.pointer (some ⟨w.heap.size+1,0,none⟩),.int .i64 0,.pointer (some ⟨g,0,none⟩),.pointer (some ⟨g+1,0,none⟩),.pointer (some ⟨g+1+1,0,none⟩),.pointer (some ⟨Bx,0,none⟩),undef,.slice A ps.length c,.int .i64 (Z4 ps),.int .u64 (ZH true),.slice A ps.length c,.func (.func 304) #[] #[.pointer (some ⟨g+1+1+1,0,none⟩)],.agg #[.int .i64 (x:Int),.int .i64 (((x:Int)+1) % (ps.length:Int)),.int .i64 (ZX ps x).1,.int .i64 (ZX ps x).2,.int .i64 (ZX ps ((x+1) % ps.length)).1,.int .i64 (ZX ps ((x+1) % ps.length)).2],undef,undef,undef,undef,undef,undef,undef,undef,undef,undef,undef,undef,undef,undef,undef,undef,undef,undef,undef,undef,undef,undef,undef,undef,undef,undef,undef],defers:=[] })
  (fun x a' _ X Y row hs hg hr=>by obtain ⟨Bx,es',h1,hT,h2,h3⟩:=hs;exact ⟨Bx,es',h1,WY _ _ t (fun _:Unit=>es') Ga.out () X Y row hT hg hr,XR Bx 301 (fun (_:Unit)=>#[.int .i64 (x:Int),.int .i64 (((x:Int)+1) % (ps.length:Int)),.int .i64 (ZX ps x).1,.int .i64 (ZX ps x).2,.int .i64 (ZX ps ((x+1) % ps.length)).1,.int .i64 (ZX ps ((x+1) % ps.length)).2]) () X Y row h2 hg (fun r e=>(hr r e).2),h3⟩)
  ?assign ?body ?done ?stop
 case assign =>
  rintro l pre x W K ⟨⟨⟨⟨T1,P1⟩,S1⟩,O1,N1⟩,hB1,hT1⟩ hK;have hlt:g+1+1<W.heap.size:=N1.lt;unfold gP;gi_wp2;have hEW:∀ k,Also P (g+1+1+1) k->k<W.heap.size:=fun k hk=>Nat.lt_of_lt_of_le (Lf.out k hk) hB1.size;refine hK _ _ ((KeepsOthers.alloc _ _).from _) (Z9.of_below (bA) hEW) ⟨⟨⟨⟨T1.alloc _,P1.alloc _⟩,S1.alloc _⟩,O1.alloc _,N1.alloc _⟩,hB1.trans (Z9.of_below (bA) hEW),hT1.step (bA)⟩ ⟨W.heap.size,es++Yo pre,hlt,?_,Z7.new _ _ _,rfl⟩;refine (hT1.add (R:=Also (More P w W4) W.heap.size) fun k hk=>?_).step (bA);rcases hk with hk|hk
  · exact .inl hk
  · exact .inr (by omega)
 case body =>
  rintro l pre x a' W hl _ ⟨⟨⟨⟨T1,P1⟩,S1⟩,O1,N1⟩,hB1,hT1⟩ ⟨Bx,es',hBx,hTx,bX,rfl⟩ hpl;have hszW:W4.heap.size<=W.heap.size:=hB1.size;have pq:=hT1.with hTx
  clear hT1 hTx;have Yv:prog.follows .mixedOrders=true:=by kernel_rfl
  have t0:=T1.q0 rfl;have x0:=bX.q0 rfl;have o0:=O1.frozen 0;have hgs:g+1+1<W.heap.size:=N1.lt;obtain ⟨o5,ho5⟩:=eE ((bif decide (x=0) then false else (Xg (Z4 ps) ps p pre).1));have HIN:∃ Wi,(if x=0 then Wi=W.setCell ⟨g+1,0,none⟩ (.int .u64 0) else Wi=W)/\(Z7 Wi w.heap.size 193 #[.pointer (ZG t)]/\Z7 Wi (w.heap.size+1) 41 #[.int .i64 p.1,.int .i64 p.2])/\Z7 Wi g 2 #[.int .i64 (Z4 ps)]/\Z7 Wi (g+1) 44 #[.int .u64 (ZH o5)]/\Z7 Wi (g+1+1) 44 #[.int .u64 (ZH (Xg (Z4 ps) ps p pre).2)]/\Z7 Wi Bx 301 #[.int .i64 (x:Int),.int .i64 (((x:Int)+1) % (ps.length:Int)),.int .i64 (ZX ps x).1,.int .i64 (ZX ps x).2,.int .i64 (ZX ps ((x+1) % ps.length)).1,.int .i64 (ZX ps ((x+1) % ps.length)).2]/\Z9 (Also P (g+1+1+1)) W Wi/\KeepsFrom W4.heap.size W Wi/\Tp Wi (Also (More P w W4) Bx) t (es++Yo pre):=by
   by_cases hx:x=0
   · refine ⟨W.setCell ⟨g+1,0,none⟩ (.int .u64 0),by rw [if_pos hx],⟨T1.far (by dsimp only;omega) _,P1.far (by dsimp only;omega) _⟩,S1.far (by dsimp only;omega) _,?_,N1.far (by dsimp only;omega) _,bX.far (by dsimp only;omega) _,Z9.setCell RO.out _ _ _,(KeepsOthers.setCell _ _ _).from _,pq.set (.inl mQ.out) _ _⟩;have h:=O1.set 0 (.int .u64 0);rw [ho5,decide_eq_true hx];exact h
   · refine ⟨W,by rw [if_neg hx],⟨T1,P1⟩,S1,?_,N1,bX,Z9.refl _ _,KeepsFrom.refl _ _,pq⟩;rw [ho5,decide_eq_false hx];exact O1
  obtain ⟨Wi,iF,⟨Ti,Pi⟩,Si,Oi,Ni,Xi,hKi,hFi,hTi⟩:=HIN;have hBi:Z9 (Also P (g+1+1+1)) W4 Wi:=hB1.trans hKi
  have hsub:∀ k,Also P (g+1+1+1) k->Also (More P w W4) Bx k:=fun k hk=>by
   rcases hk with hk|hk
   · exact .inl (.inl hk)
   · subst hk;exact .inl HMV.out
  have iA:∀ k,Also (More P w W4) Bx k->k<Wi.heap.size:=fun k hk=>by
   rcases hk with hk|hk
   · have:=HPM.out k hk;have:=hBi.size;omega
   · subst hk;exact Xi.lt
  have hpx:(es++Yo pre).length<=1000000:=by
   have:Zy ps.length<=64:=(by unfold Zy;split <;> omega);simp [Yo];omega
  have zfa:=VR (Also (More P w W4) Bx) t (es++Yo pre) 5 (x:Int) 0 Wi iA hTi hpx (by unfold Zg;omega);have RY:=hide (fun (xi:Int) (he:xi=(x:Int))=>Ao zfa he);clear zfa;have TF:=hide (fun W5 (hM:MW W5)=>Wh (ZX ps x) (ZX ps ((x+1) % ps.length)) p (Lg.out.at_ _) (Lg.out.at_ _) HP.out W5 hM);have hwr:=zi ps p x;have hsb:=lU ps p x;have vM:=hide (qw (Z4 ps) ps p pre x);rw [<- ho5] at vM;have ti:=Ti.q0 rfl;have xi:=Xi.q0 rfl
  have Ej:Hid (∀ W8,Z9 (Also P (g+1+1+1)) Wi W8->KeepsFrom W4.heap.size Wi W8->Z7 W8 w.heap.size 193 #[.pointer (ZG t)]->Z7 W8 (w.heap.size+1) 41 #[.int .i64 p.1,.int .i64 p.2]->Z7 W8 g 2 #[.int .i64 (Z4 ps)]->Z7 W8 (g+1) 44 #[.int .u64 (ZH (o5 || decide (Sw (Z4 ps) ps p x<0)))]->Z7 W8 (g+1+1) 44 #[.int .u64 (ZH ((Xg (Z4 ps) ps p pre).2 || decide (Sw (Z4 ps) ps p x=0)))]->Tp W8 (Also (More P w W4) Bx) t (es++Yo pre++[(5,(x:Int),0)]) ->
   KeepsFrom W4.heap.size W W8/\Z9 (Also P (g+1+1+1)) W W8/\(((Z7 W8 w.heap.size 193 #[.pointer (ZG t)]/\Z7 W8 (w.heap.size+1) 41 #[.int .i64 p.1,.int .i64 p.2])/\Z7 W8 g 2 #[.int .i64 (Z4 ps)])/\(Z7 W8 (g+1) 44 #[.int .u64 (ZH (Xg (Z4 ps) ps p (pre++[x])).1)]/\Z7 W8 (g+1+1) 44 #[.int .u64 (ZH (Xg (Z4 ps) ps p (pre++[x])).2)]))/\(Z9 (Also P (g+1+1+1)) W4 W8/\Tp W8 (More P w W4) t (es++Yo (pre++[x])))) :=
   hide fun W8 hk hf h1 h2 h3 h4 h5 h6=>⟨hFi.trans hf,hKi.trans hk,⟨⟨⟨h1,h2⟩,h3⟩,by rw [vM.out];exact h4,by rw [vM.out];exact h5⟩,hBi.trans hk,by
    have h7:=h6.mono (R:=More P w W4) (fun k h=>.inl h);rw [List.append_assoc] at h7;rw [show Yo (pre++[x])=Yo pre++[(5,(x:Int),0)] by simp [Yo]]
    exact h7⟩
  have zbc:Hid (x=0->Wi=W.setCell ⟨g+1,0,none⟩ (.int .u64 0))/\Hid (x≠0->Wi=W):=⟨hide fun h=>by rw [if_pos h] at iF;exact iF,hide fun h=>by rw [if_neg h] at iF;exact iF⟩;obtain ⟨nJ,nK⟩:=zbc;have LV:=hide hsub;have sM:=hide iA;have nI:=hide hBi;clear iF hKi hFi vM ho5 hsub iA hBi hB1 pq hTi hpx hpl hszW;have hx:x=0\/x≠0:=by omega
  have hgw1:w.heap.size≠g+1:=by omega
  have yzi:w.heap.size+1≠g+1:=by omega
  have yzj:Bx≠g+1:=by omega
  rcases hx with hx|hx
  · have hxi:(x:Int)=0:=(by omega);have iF:=nJ.out hx;have o1:=O1.q0 rfl;clear hx;clear nJ nK T1 P1 S1 O1 N1 bX;gi_wp2_with fail;refine ⟨trivial,?_⟩;rw [<- iF];have HWi:=hide iF;clear iF;refine (CallsIn.inRound l (callsIn_wide.2 (RY.out 0 hxi.symm))).mono ?_;rintro e W5 ⟨rfl,hkn,hmn,Rf⟩;have iA:=sM.out;have T5:=Ti.kept hkn (.inl bZ.out);have P5:=Pi.kept hkn (.inl bY.out);have S5:=Si.kept hkn (.inl HMS.out);have O5:=Oi.kept hkn (.inl mQ.out);have N5:=Ni.kept hkn (.inl HMN.out);have X5:=Xi.kept hkn (.inr rfl);have hki:Z9 (Also P (g+1+1+1)) Wi W5:=hkn.mono LV.out;have hfi:KeepsFrom W4.heap.size Wi W5:=hmn.from Ga.out;have eB:=hide (fun W8 (hk:Z9 (Also P (g+1+1+1)) W5 W8) (hf:KeepsFrom W4.heap.size W5 W8)=>Ej.out W8 (hki.trans hk) (hfi.trans hf));have hb4:=nI.out.trans hki;have iC:∀ k,Also P (g+1+1+1) k->k<W5.drew.heap.size:=fun k hk=>Nat.lt_of_lt_of_le (Lf.out k hk) hb4.size;have sQ:=hide (TF.out W5.drew ((HW.out.kept (NV.out.trans (hb4.mono fun k h=>.inl h)) Jp.out).step (ZV (Below.refl _ _))));have x5:=X5.q0 rfl;clear hkn hmn hki hfi hb4 iA Ti Pi Si Oi Ni Xi ti xi Ej nI TF RY LV sM;gi_wp2_with fail;clear hxi;refine Yz 1000 (S:=fun w'=>Z7 w' g 2 #[.int .i64 (Z4 ps)]/\Z7 w' Bx 301 #[.int .i64 (x:Int),.int .i64 (((x:Int)+1) % (ps.length:Int)),.int .i64 (ZX ps x).1,.int .i64 (ZX ps x).2,.int .i64 (ZX ps ((x+1) % ps.length)).1,.int .i64 (ZX ps ((x+1) % ps.length)).2]/\Z7 w' (w.heap.size+1) 41 #[.int .i64 p.1,.int .i64 p.2]) Yv ?_;have hS:Z7 W5.drew g 2 #[.int .i64 (Z4 ps)]/\Z7 W5.drew Bx 301 #[.int .i64 (x:Int),.int .i64 (((x:Int)+1) % (ps.length:Int)),.int .i64 (ZX ps x).1,.int .i64 (ZX ps x).2,.int .i64 (ZX ps ((x+1) % ps.length)).1,.int .i64 (ZX ps ((x+1) % ps.length)).2]/\Z7 W5.drew (w.heap.size+1) 41 #[.int .i64 p.1,.int .i64 p.2]:=⟨S5,X5,P5⟩;refine' Z0 (i:=0) rfl ?VK hS ?Uz
    case VK =>
     intro w' hSw;obtain ⟨s1,s2,s3⟩:=hSw;have z1:=s1.q0 rfl;have z2:=s2.q2 rfl;have z3:=s2.q3 rfl;have z4:=s2.q4 rfl;have z5:=s2.q5 rfl;have z6:=s3.q0 rfl;have z7:=s3.q1 rfl;go_simp;rfl
    simp only [Act.put,getElem_toArray,getElem_cons_zero,setIfInBounds_toArray,set_cons_zero,set_cons_succ];refine' Z0 (i:=1) rfl ?VL hS ?UA
    case VL =>
     intro w' hSw;go_simp;rfl
    simp only [Act.put,Z6];refine' Z0 (i:=2) rfl ?VN hS ?UC
    case VN =>
     intro w' hSw;obtain ⟨s1,s2,s3⟩:=hSw;have z1:=s1.q0 rfl;have z2:=s2.q2 rfl;have z3:=s2.q3 rfl;have z4:=s2.q4 rfl;have z5:=s2.q5 rfl;have z6:=s3.q0 rfl;have z7:=s3.q1 rfl;go_simp;rfl
    simp only [Act.put,Z6];refine' Z0 (i:=3) rfl ?U1 hS ?Tm
    case U1 =>
     intro w' hSw;go_simp;rfl
    simp only [Act.put,Z6];refine' Z0 (i:=4) rfl ?Oz hS ?LG
    case Oz =>
     intro w' hSw;obtain ⟨s1,s2,s3⟩:=hSw;have z1:=s1.q0 rfl;have z2:=s2.q2 rfl;have z3:=s2.q3 rfl;have z4:=s2.q4 rfl;have z5:=s2.q5 rfl;have z6:=s3.q0 rfl;have z7:=s3.q1 rfl;go_simp;rfl
    simp only [Act.put,Z6];refine' Z0 (i:=5) rfl ?OB hS ?LH
    case OB =>
     intro w' hSw;obtain ⟨s1,s2,s3⟩:=hSw;have z1:=s1.q0 rfl;have z2:=s2.q2 rfl;have z3:=s2.q3 rfl;have z4:=s2.q4 rfl;have z5:=s2.q5 rfl;have z6:=s3.q0 rfl;have z7:=s3.q1 rfl;go_simp;rfl
    simp only [Act.put,Z6];refine Zc (i:=6) (by kernel_rfl) rfl ?_;intro K hK;rw [if_pos (by rfl)];go_simp;refine ⟨trivial,?_⟩;refine (CallsIn.inRound l (callsIn_wide.2 sQ.out)).mono ?_;rintro e W6 ⟨rfl,hb6⟩;have RZ:Z7 W6 g 2 #[.int .i64 (Z4 ps)]/\Z7 W6 Bx 301 #[.int .i64 (x:Int),.int .i64 (((x:Int)+1) % (ps.length:Int)),.int .i64 (ZX ps x).1,.int .i64 (ZX ps x).2,.int .i64 (ZX ps ((x+1) % ps.length)).1,.int .i64 (ZX ps ((x+1) % ps.length)).2]/\Z7 W6 (w.heap.size+1) 41 #[.int .i64 p.1,.int .i64 p.2]:=⟨S5.drew.step hb6,X5.drew.step hb6,P5.drew.step hb6⟩;refine hK.out _ _ (fun _=>RZ) ?_;clear hK K
    (try simp only [Act.put,Z6])
    refine' Z0 (i:=7) rfl ?OC RZ ?LJ
    case OC =>
     intro w' hSw;go_simp;rfl
    simp only [Act.put,Z6];refine' Z0 (i:=8) rfl ?jG RZ ?bf
    case jG =>
     intro w' hSw;go_simp;rfl
    simp only [Act.put,Z6];refine Yc (by kernel_rfl) ?_ _;have T6:=T5.drew.step hb6;have O6:=O5.drew.step hb6;have N6:=N5.drew.step hb6;have Uh:Z9 (Also P (g+1+1+1)) W5 W6:=(Z9.drew _ _).trans (Z9.of_below hb6 iC);have t6:Tp W6 (Also (More P w W4) Bx) t (es++Yo pre++[(5,(x:Int),0)]):=Rf.drew.step hb6;have hf6:KeepsFrom W4.heap.size W5 W6:=(KeepsFrom.of_below (ZV (Below.refl _ _))).trans (KeepsFrom.of_below hb6);obtain ⟨s6,x6,p6⟩:=RZ;have HHB:=hide hb6;clear hS hb6 hwr x5 sQ Rf iC;generalize Sw (Z4 ps) ps p x=sd at *;have Oc:=hide (Xq sd (by omega) (by omega) W6.drew);have hor:=Ro o5 (decide (sd<0));generalize hm7:(o5 || decide (sd<0))=o7 at *;gi_wp2_with fail;refine Yz 4 (S:=fun w'=>Z7 w' (g+1) 44 #[.int .u64 (ZH o5)]) Yv ?_;have hS:Z7 W6.drew (g+1) 44 #[.int .u64 (ZH o5)]:=O6;refine' Z0 (i:=0) rfl ?zio hS ?zee
    case zio =>
     intro w' hSw;have z1:=hSw.q0 rfl;go_simp;rfl
    simp only [Act.put,getElem_toArray,getElem_cons_zero,setIfInBounds_toArray,set_cons_zero,set_cons_succ];refine' Z0 (i:=1) rfl ?zrh hS ?zjr
    case zrh =>
     intro w' hSw;go_simp;rfl
    simp only [Act.put,Z6];refine Zc (i:=2) (by kernel_rfl) rfl ?_;intro K hK;rw [if_pos (by rfl)];go_simp;refine ⟨trivial,?_⟩;refine (CallsIn.inRound l (callsIn_wide.2 Oc.out)).mono ?_;rintro e w' ⟨rfl,rfl⟩;refine hK.out _ _ (fun _=>hS) ?_;clear hK K
    (try simp only [Act.put,Z6])
    refine' Z0 (i:=3) rfl ?zsa hS ?zkk
    case zsa =>
     intro w' hSw;go_simp;rfl
    simp only [Act.put,Z6];have c7:W6.drew.cell? ⟨g+1,0,none⟩=some (.int .u64 (ZH o5)):=hS.q0 rfl;have f7:=hS.frozen 0;refine Zc (i:=4) (by kernel_rfl) rfl ?_;intro K hK;rw [if_pos (by rfl)];go_simp;refine hK.out _ _ (fun h=>absurd rfl h) ?_;clear hK K;refine Yc (by kernel_rfl) ?_ _;obtain ⟨W7,Pm⟩:=eE ((W6.setCell ⟨g+1,0,none⟩ (.int .u64 (ZH o7))).drew);rw [<- Pm];have O7:Z7 W7 (g+1) 44 #[.int .u64 (ZH o7)]:=(by rw [Pm];exact (O6.set 0 _).drew);have N7:Z7 W7 (g+1+1) 44 #[.int .u64 (ZH (Xg (Z4 ps) ps p pre).2)]:=(by rw [Pm];exact (N6.far (by dsimp only;omega) _).drew);have T7:Z7 W7 w.heap.size 193 #[.pointer (ZG t)]:=(by rw [Pm];exact (T6.far (by dsimp only;omega) _).drew);have P7:Z7 W7 (w.heap.size+1) 41 #[.int .i64 p.1,.int .i64 p.2]:=(by rw [Pm];exact (p6.far (by dsimp only;omega) _).drew);have S7:Z7 W7 g 2 #[.int .i64 (Z4 ps)]:=(by rw [Pm];exact (s6.far (by dsimp only;omega) _).drew);have hk7:Z9 (Also P (g+1+1+1)) W5 W7:=(by rw [Pm];exact Uh.trans ((Z9.setCell RO.out _ _ _).trans (Z9.drew _ _)));have t7:Tp W7 (Also (More P w W4) Bx) t (es++Yo pre++[(5,(x:Int),0)]):=(by rw [Pm];exact (t6.set (.inl mQ.out) _ _).drew);have hf7:KeepsFrom W4.heap.size W5 W7:=(by rw [Pm];exact hf6.trans (((KeepsOthers.setCell _ _ _).from _).trans (KeepsFrom.of_below (ZV (Below.refl _ _)))));have HW7:=hide Pm;clear Pm hS hor c7 f7 Uh hf6 Oc O6 N6 T6 p6 s6 x6 t6;obtain ⟨hz1,hz2⟩:=V3 hsb.1 hsb.2;have HZE:=hide (TY (IntKind.u64.wrap sd) hz1.1 hz1.2 W7.drew);rw [hz2] at HZE;have hor:=Ro (Xg (Z4 ps) ps p pre).2 (decide (sd=0));generalize hm8:((Xg (Z4 ps) ps p pre).2 || decide (sd=0))=n8 at *;generalize ni:(Xg (Z4 ps) ps p pre).2=n5 at *;clear hz1 hz2;gi_wp2_with fail;refine Yz 5 (S:=fun w'=>Z7 w' (g+1+1) 44 #[.int .u64 (ZH n5)]) Yv ?_;have hS:Z7 W7.drew (g+1+1) 44 #[.int .u64 (ZH n5)]:=N7;refine' Z0 (i:=0) rfl ?zqy hS ?zjh
    case zqy =>
     intro w' hSw;have z1:=hSw.q0 rfl;go_simp;rfl
    simp only [Act.put,getElem_toArray,getElem_cons_zero,setIfInBounds_toArray,set_cons_zero,set_cons_succ];refine' Z0 (i:=1) rfl ?zrj hS ?zjt
    case zrj =>
     intro w' hSw;go_simp;rfl
    simp only [Act.put,Z6];refine' Z0 (i:=2) rfl ?zrs hS ?zkc
    case zrs =>
     intro w' hSw;go_simp;rfl
    simp only [Act.put,Z6];refine Zc (i:=3) (by kernel_rfl) rfl ?_;intro K hK;rw [if_pos (by rfl)];go_simp;refine ⟨trivial,?_⟩;refine (CallsIn.inRound l (callsIn_wide.2 HZE.out)).mono ?_;rintro e w' ⟨rfl,rfl⟩;refine hK.out _ _ (fun _=>hS) ?_;clear hK K
    (try simp only [Act.put,Z6])
    refine' Z0 (i:=4) rfl ?zsj hS ?zkt
    case zsj =>
     intro w' hSw;go_simp;rfl
    simp only [Act.put,Z6];have c7:W7.drew.cell? ⟨g+1+1,0,none⟩=some (.int .u64 (ZH n5)):=hS.q0 rfl;have f7:=hS.frozen 0;refine Zc (i:=5) (by kernel_rfl) rfl ?_;intro K hK;rw [if_pos (by rfl)];go_simp;refine hK.out _ _ (fun h=>absurd rfl h) ?_;clear hK K;refine Yc (by kernel_rfl) ?_ _;have HF:=hide (eB.out (W7.setCell ⟨g+1+1,0,none⟩ (.int .u64 (ZH n8))).drew (hk7.trans ((Z9.setCell HE2.out _ _ _).trans (Z9.drew _ _))) (hf7.trans (((KeepsOthers.setCell _ _ _).from _).trans (KeepsFrom.of_below (ZV (Below.refl _ _))))) (T7.far (by dsimp only;omega) _).drew (P7.far (by dsimp only;omega) _).drew (S7.far (by dsimp only;omega) _).drew (O7.far (by dsimp only;omega) _).drew (N7.set 0 _).drew (t7.set (.inl HMN.out) _ _).drew);clear t7 hk7 hf7;gi_wp2_with fail;exact HF.out
  · have hxi:¬ (x:Int)=0:=(by omega);have iF:=nK.out hx;subst iF;clear hx;clear nJ nK T1 P1 S1 O1 N1 bX;gi_wp2_with fail;refine ⟨trivial,?_⟩;refine (CallsIn.inRound l (callsIn_wide.2 (RY.out _ rfl))).mono ?_;rintro e W5 ⟨rfl,hkn,hmn,Rf⟩;have iA:=sM.out;have T5:=Ti.kept hkn (.inl bZ.out);have P5:=Pi.kept hkn (.inl bY.out);have S5:=Si.kept hkn (.inl HMS.out);have O5:=Oi.kept hkn (.inl mQ.out);have N5:=Ni.kept hkn (.inl HMN.out);have X5:=Xi.kept hkn (.inr rfl);have hki:Z9 (Also P (g+1+1+1)) Wi W5:=hkn.mono LV.out;have hfi:KeepsFrom W4.heap.size Wi W5:=hmn.from Ga.out;have eB:=hide (fun W8 (hk:Z9 (Also P (g+1+1+1)) W5 W8) (hf:KeepsFrom W4.heap.size W5 W8)=>Ej.out W8 (hki.trans hk) (hfi.trans hf));have hb4:=nI.out.trans hki;have iC:∀ k,Also P (g+1+1+1) k->k<W5.drew.heap.size:=fun k hk=>Nat.lt_of_lt_of_le (Lf.out k hk) hb4.size;have sQ:=hide (TF.out W5.drew ((HW.out.kept (NV.out.trans (hb4.mono fun k h=>.inl h)) Jp.out).step (ZV (Below.refl _ _))));have x5:=X5.q0 rfl;clear hkn hmn hki hfi hb4 iA Ti Pi Si Oi Ni Xi ti xi Ej nI TF RY LV sM;gi_wp2_with fail;clear hxi;refine Yz 1000 (S:=fun w'=>Z7 w' g 2 #[.int .i64 (Z4 ps)]/\Z7 w' Bx 301 #[.int .i64 (x:Int),.int .i64 (((x:Int)+1) % (ps.length:Int)),.int .i64 (ZX ps x).1,.int .i64 (ZX ps x).2,.int .i64 (ZX ps ((x+1) % ps.length)).1,.int .i64 (ZX ps ((x+1) % ps.length)).2]/\Z7 w' (w.heap.size+1) 41 #[.int .i64 p.1,.int .i64 p.2]) Yv ?_;have hS:Z7 W5.drew g 2 #[.int .i64 (Z4 ps)]/\Z7 W5.drew Bx 301 #[.int .i64 (x:Int),.int .i64 (((x:Int)+1) % (ps.length:Int)),.int .i64 (ZX ps x).1,.int .i64 (ZX ps x).2,.int .i64 (ZX ps ((x+1) % ps.length)).1,.int .i64 (ZX ps ((x+1) % ps.length)).2]/\Z7 W5.drew (w.heap.size+1) 41 #[.int .i64 p.1,.int .i64 p.2]:=⟨S5,X5,P5⟩;refine' Z0 (i:=0) rfl ?ztt hS ?zmd
    case ztt =>
     intro w' hSw;obtain ⟨s1,s2,s3⟩:=hSw;have z1:=s1.q0 rfl;have z2:=s2.q2 rfl;have z3:=s2.q3 rfl;have z4:=s2.q4 rfl;have z5:=s2.q5 rfl;have z6:=s3.q0 rfl;have z7:=s3.q1 rfl;go_simp;rfl
    simp only [Act.put,getElem_toArray,getElem_cons_zero,setIfInBounds_toArray,set_cons_zero,set_cons_succ];refine' Z0 (i:=1) rfl ?ztv hS ?zmf
    case ztv =>
     intro w' hSw;go_simp;rfl
    simp only [Act.put,Z6];refine' Z0 (i:=2) rfl ?ztw hS ?zmg
    case ztw =>
     intro w' hSw;obtain ⟨s1,s2,s3⟩:=hSw;have z1:=s1.q0 rfl;have z2:=s2.q2 rfl;have z3:=s2.q3 rfl;have z4:=s2.q4 rfl;have z5:=s2.q5 rfl;have z6:=s3.q0 rfl;have z7:=s3.q1 rfl;go_simp;rfl
    simp only [Act.put,Z6];refine' Z0 (i:=3) rfl ?ztx hS ?zmh
    case ztx =>
     intro w' hSw;go_simp;rfl
    simp only [Act.put,Z6];refine' Z0 (i:=4) rfl ?zty hS ?zmi
    case zty =>
     intro w' hSw;obtain ⟨s1,s2,s3⟩:=hSw;have z1:=s1.q0 rfl;have z2:=s2.q2 rfl;have z3:=s2.q3 rfl;have z4:=s2.q4 rfl;have z5:=s2.q5 rfl;have z6:=s3.q0 rfl;have z7:=s3.q1 rfl;go_simp;rfl
    simp only [Act.put,Z6];refine' Z0 (i:=5) rfl ?ztz hS ?zmj
    case ztz =>
     intro w' hSw;obtain ⟨s1,s2,s3⟩:=hSw;have z1:=s1.q0 rfl;have z2:=s2.q2 rfl;have z3:=s2.q3 rfl;have z4:=s2.q4 rfl;have z5:=s2.q5 rfl;have z6:=s3.q0 rfl;have z7:=s3.q1 rfl;go_simp;rfl
    simp only [Act.put,Z6];refine Zc (i:=6) (by kernel_rfl) rfl ?_;intro K hK;rw [if_pos (by rfl)];go_simp;refine ⟨trivial,?_⟩;refine (CallsIn.inRound l (callsIn_wide.2 sQ.out)).mono ?_;rintro e W6 ⟨rfl,hb6⟩;have RZ:Z7 W6 g 2 #[.int .i64 (Z4 ps)]/\Z7 W6 Bx 301 #[.int .i64 (x:Int),.int .i64 (((x:Int)+1) % (ps.length:Int)),.int .i64 (ZX ps x).1,.int .i64 (ZX ps x).2,.int .i64 (ZX ps ((x+1) % ps.length)).1,.int .i64 (ZX ps ((x+1) % ps.length)).2]/\Z7 W6 (w.heap.size+1) 41 #[.int .i64 p.1,.int .i64 p.2]:=⟨S5.drew.step hb6,X5.drew.step hb6,P5.drew.step hb6⟩;refine hK.out _ _ (fun _=>RZ) ?_;clear hK K
    (try simp only [Act.put,Z6])
    refine' Z0 (i:=7) rfl ?zua RZ ?zmk
    case zua =>
     intro w' hSw;go_simp;rfl
    simp only [Act.put,Z6];refine' Z0 (i:=8) rfl ?zue RZ ?zml
    case zue =>
     intro w' hSw;go_simp;rfl
    simp only [Act.put,Z6];refine Yc (by kernel_rfl) ?_ _;have T6:=T5.drew.step hb6;have O6:=O5.drew.step hb6;have N6:=N5.drew.step hb6;have Uh:Z9 (Also P (g+1+1+1)) W5 W6:=(Z9.drew _ _).trans (Z9.of_below hb6 iC);have t6:Tp W6 (Also (More P w W4) Bx) t (es++Yo pre++[(5,(x:Int),0)]):=Rf.drew.step hb6;have hf6:KeepsFrom W4.heap.size W5 W6:=(KeepsFrom.of_below (ZV (Below.refl _ _))).trans (KeepsFrom.of_below hb6);obtain ⟨s6,x6,p6⟩:=RZ;have HHB:=hide hb6;clear hS hb6 hwr x5 sQ Rf iC;generalize Sw (Z4 ps) ps p x=sd at *;have Oc:=hide (Xq sd (by omega) (by omega) W6.drew);have hor:=Ro o5 (decide (sd<0));generalize hm7:(o5 || decide (sd<0))=o7 at *;gi_wp2_with fail;refine Yz 4 (S:=fun w'=>Z7 w' (g+1) 44 #[.int .u64 (ZH o5)]) Yv ?_;have hS:Z7 W6.drew (g+1) 44 #[.int .u64 (ZH o5)]:=O6;refine' Z0 (i:=0) rfl ?ztu hS ?zme
    case ztu =>
     intro w' hSw;have z1:=hSw.q0 rfl;go_simp;rfl
    simp only [Act.put,getElem_toArray,getElem_cons_zero,setIfInBounds_toArray,set_cons_zero,set_cons_succ];refine' Z0 (i:=1) rfl ?zze hS ?zob
    case zze =>
     intro w' hSw;go_simp;rfl
    simp only [Act.put,Z6];refine Zc (i:=2) (by kernel_rfl) rfl ?_;intro K hK;rw [if_pos (by rfl)];go_simp;refine ⟨trivial,?_⟩;refine (CallsIn.inRound l (callsIn_wide.2 Oc.out)).mono ?_;rintro e w' ⟨rfl,rfl⟩;refine hK.out _ _ (fun _=>hS) ?_;clear hK K
    (try simp only [Act.put,Z6])
    refine' Z0 (i:=3) rfl ?zzh hS ?zoe
    case zzh =>
     intro w' hSw;go_simp;rfl
    simp only [Act.put,Z6];have c7:W6.drew.cell? ⟨g+1,0,none⟩=some (.int .u64 (ZH o5)):=hS.q0 rfl;have f7:=hS.frozen 0;refine Zc (i:=4) (by kernel_rfl) rfl ?_;intro K hK;rw [if_pos (by rfl)];go_simp;refine hK.out _ _ (fun h=>absurd rfl h) ?_;clear hK K;refine Yc (by kernel_rfl) ?_ _;obtain ⟨W7,Pm⟩:=eE ((W6.setCell ⟨g+1,0,none⟩ (.int .u64 (ZH o7))).drew);rw [<- Pm];have O7:Z7 W7 (g+1) 44 #[.int .u64 (ZH o7)]:=(by rw [Pm];exact (O6.set 0 _).drew);have N7:Z7 W7 (g+1+1) 44 #[.int .u64 (ZH (Xg (Z4 ps) ps p pre).2)]:=(by rw [Pm];exact (N6.far (by dsimp only;omega) _).drew);have T7:Z7 W7 w.heap.size 193 #[.pointer (ZG t)]:=(by rw [Pm];exact (T6.far (by dsimp only;omega) _).drew);have P7:Z7 W7 (w.heap.size+1) 41 #[.int .i64 p.1,.int .i64 p.2]:=(by rw [Pm];exact (p6.far (by dsimp only;omega) _).drew);have S7:Z7 W7 g 2 #[.int .i64 (Z4 ps)]:=(by rw [Pm];exact (s6.far (by dsimp only;omega) _).drew);have hk7:Z9 (Also P (g+1+1+1)) W5 W7:=(by rw [Pm];exact Uh.trans ((Z9.setCell RO.out _ _ _).trans (Z9.drew _ _)));have t7:Tp W7 (Also (More P w W4) Bx) t (es++Yo pre++[(5,(x:Int),0)]):=(by rw [Pm];exact (t6.set (.inl mQ.out) _ _).drew);have hf7:KeepsFrom W4.heap.size W5 W7:=(by rw [Pm];exact hf6.trans (((KeepsOthers.setCell _ _ _).from _).trans (KeepsFrom.of_below (ZV (Below.refl _ _)))));have HW7:=hide Pm;clear Pm hS hor c7 f7 Uh hf6 Oc O6 N6 T6 p6 s6 x6 t6;obtain ⟨hz1,hz2⟩:=V3 hsb.1 hsb.2;have HZE:=hide (TY (IntKind.u64.wrap sd) hz1.1 hz1.2 W7.drew);rw [hz2] at HZE;have hor:=Ro (Xg (Z4 ps) ps p pre).2 (decide (sd=0));generalize hm8:((Xg (Z4 ps) ps p pre).2 || decide (sd=0))=n8 at *;generalize ni:(Xg (Z4 ps) ps p pre).2=n5 at *;clear hz1 hz2;gi_wp2_with fail;refine Yz 5 (S:=fun w'=>Z7 w' (g+1+1) 44 #[.int .u64 (ZH n5)]) Yv ?_;have hS:Z7 W7.drew (g+1+1) 44 #[.int .u64 (ZH n5)]:=N7;refine' Z0 (i:=0) rfl ?zzd hS ?zoa
    case zzd =>
     intro w' hSw;have z1:=hSw.q0 rfl;go_simp;rfl
    simp only [Act.put,getElem_toArray,getElem_cons_zero,setIfInBounds_toArray,set_cons_zero,set_cons_succ];refine' Z0 (i:=1) rfl ?zzf hS ?zoc
    case zzf =>
     intro w' hSw;go_simp;rfl
    simp only [Act.put,Z6];refine' Z0 (i:=2) rfl ?zzg hS ?zod
    case zzg =>
     intro w' hSw;go_simp;rfl
    simp only [Act.put,Z6];refine Zc (i:=3) (by kernel_rfl) rfl ?_;intro K hK;rw [if_pos (by rfl)];go_simp;refine ⟨trivial,?_⟩;refine (CallsIn.inRound l (callsIn_wide.2 HZE.out)).mono ?_;rintro e w' ⟨rfl,rfl⟩;refine hK.out _ _ (fun _=>hS) ?_;clear hK K
    (try simp only [Act.put,Z6])
    refine' Z0 (i:=4) rfl ?zzi hS ?zof
    case zzi =>
     intro w' hSw;go_simp;rfl
    simp only [Act.put,Z6];have c7:W7.drew.cell? ⟨g+1+1,0,none⟩=some (.int .u64 (ZH n5)):=hS.q0 rfl;have f7:=hS.frozen 0;refine Zc (i:=5) (by kernel_rfl) rfl ?_;intro K hK;rw [if_pos (by rfl)];go_simp;refine hK.out _ _ (fun h=>absurd rfl h) ?_;clear hK K;refine Yc (by kernel_rfl) ?_ _;have HF:=hide (eB.out (W7.setCell ⟨g+1+1,0,none⟩ (.int .u64 (ZH n8))).drew (hk7.trans ((Z9.setCell HE2.out _ _ _).trans (Z9.drew _ _))) (hf7.trans (((KeepsOthers.setCell _ _ _).from _).trans (KeepsFrom.of_below (ZV (Below.refl _ _))))) (T7.far (by dsimp only;omega) _).drew (P7.far (by dsimp only;omega) _).drew (S7.far (by dsimp only;omega) _).drew (O7.far (by dsimp only;omega) _).drew (N7.set 0 _).drew (t7.set (.inl HMN.out) _ _).drew);clear t7 hk7 hf7;gi_wp2_with fail;exact HF.out
 case done =>
  rintro D zs W hD rfl ⟨⟨⟨⟨T1,P1⟩,S1⟩,O1,N1⟩,hB1,hT1⟩ hK;have o1:=O1.q0 rfl;have n1:=N1.q0 rfl;have hB2:Z9 P w W:=NV.out.trans (hB1.mono fun k h=>.inl h);have HMS:=hide (He (Xg (Z4 ps) ps p (List.range (Zy ps.length))).1 (Xg (Z4 ps) ps p (List.range (Zy ps.length))).2 W (HW.out.kept hB2 Jp.out).1);gi_wp2_with fail;refine ⟨trivial,?_⟩;refine (callsIn_wide.2 HMS.out).mono ?_;rintro e w' ⟨rfl,m,rfl⟩;gi_wp2;refine ⟨by simp,.inl ⟨_,_,rfl,run_takeDeferred hK,?_⟩⟩;refine ⟨_,results_tmp rfl _ _ _,rfl,(hB2.trans (Z9.of_below (YB (Below.refl W.heap.size W) m) fun k hk=>?_)).trans (Z9.putObj _ (fun h=>?_) _),?_⟩
  · exact Nat.lt_of_lt_of_le (Lf.out k (.inl hk)) hB1.size
  · have:=Lf.out D (.inl h);omega
  · have h7:=(hT1.mono (R:=P) fun k h=>.inl h).step (YB (Below.refl W.heap.size W) m);exact h7.putObj (fun u hu=>Nat.lt_of_lt_of_le (Ga.out u hu) hD) hK rfl _
 case stop =>
  rintro D c pre W _ _ h _;exact h.elim
end
end Go.Proofs.YthnenedoblncjaaGreatDoor