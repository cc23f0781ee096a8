/- Edges Locate -/
import Derived.LoopIn
import Derived.LoopNIn
import Derived.OwnWalkIn
import Derived.RangeFuncBound
import Derived.RangeFuncCalls
import Derived.RangeFuncLeaves
import Derived.RangeFuncNested
import Derived.Shelf.Abstract
import Derived.Shelf.RegionOpen
import Derived.TacticsInMore
import Derived.Test.YtfljlmleiggmjaaGreatDoorPkD17
import Derived.Test.YtfljlmleiggmjaaGreatDoorPkD22
set_option maxRecDepth 1000000
set_option maxHeartbeats 8000000
namespace Go.Proofs.YtfljlmleiggmjaaGreatDoor
open Go.Proofs.Tryz
open List (getElem_toArray getElem_cons_succ getElem_cons_zero setIfInBounds_toArray set_cons_zero set_cons_succ)
section
open Go.RowKit Go.Shelf
attribute [local go_sem] Oper.semAt_some
def ZA(n:Nat):Nat:=if 3<=n/\n<=64 then n else 0
def nX(ps:List Pt)(i:Nat):Array Value :=
 #[.agg #[.int .i64 (i:Int),.int .i64 (((i+1) % ps.length:Nat):Int),.int .i64 (Z4 ps i).1,.int .i64 (Z4 ps i).2,.int .i64 (Z4 ps ((i+1) % ps.length)).1,.int .i64 (Z4 ps ((i+1) % ps.length)).2]]
theorem zX(W:World):W.grownBy W.drew none:=⟨rfl,rfl,rfl,Nat.le_refl _,fun _ _ _=>rfl⟩
theorem Dm(n:Nat)(l Bv:Nat)(ps:List Pt)(hn:¬ (3<=ps.length/\ps.length<=64))(A:Option Addr)(c:Nat)(W:World)(zY:W.cell? ⟨Bv,0,none⟩=some (.slice A ps.length c)):
 CallsIn Fence.wide n prog 264 #[.func (.yield l) #[] #[],.pointer (some ⟨Bv,0,none⟩)] W fun e W'=>(∃ v,e=.returned v)/\W'=W:=by
 refine callsIn_wide.2 ?_;have hc:((ps.length:Nat):Int)<3\/((64:Int)<((ps.length:Nat):Int)/\¬ ((ps.length:Nat):Int)<3):=by omega
 rcases hc with h|⟨h,h2⟩
 · go_enter func264,ntmps264;go_wp2;refine bodyPost_ret (results_none rfl _ _ _) rfl ?_;exact ⟨⟨_,rfl⟩,rfl⟩
 · go_enter func264,ntmps264;go_wp2;refine bodyPost_ret (results_none rfl _ _ _) rfl ?_;exact ⟨⟨_,rfl⟩,rfl⟩
theorem vv (n:Nat) (hn1:1<=n) (l Bv:Nat) (PE:Nat->Prop) (ps:List Pt) (h3:3<=ps.length) (h64:ps.length<=64) (A:Option Addr) (c:Nat) (J Jx:List Nat->World->Prop) (W:World)
 (hJ:AbidesFrom W.heap.size J) (LG:∀ k,PE k->k<W.heap.size) (mI:PE Bv)
 (hY:∀ pre x W1,J pre W1->pre.length<ZA ps.length->YieldAt Fence.wide (n - 1) prog l (nX ps x) W1 fun e W' =>
   (e=.returned (.bool true)/\J (pre++[x]) W'/\Z8 PE W1 W')\/(e=.returned (.bool false)/\Jx (pre++[x]) W'))
 (zY:Z6 W Bv 59 #[.slice A ps.length c]) (hs:U2 W PE A (Zc ps)) (h0:J [] W) :
 CallsIn Fence.wide n prog 264 #[.func (.yield l) #[] #[],.pointer (some ⟨Bv,0,none⟩)] W fun e W'=>(∃ v,e=.returned v) /\
  ((∃ ys,ys=List.range (ZA ps.length)/\J ys W')\/(∃ pre,pre <+: List.range (ZA ps.length)/\Jx pre W')):=by
 have hE:ZA ps.length=ps.length:=by unfold ZA;rw [if_pos ⟨h3,h64⟩]
 rw [hE] at hY ⊢;have g3:¬ ((ps.length:Nat):Int)<3:=by omega
 have g64:¬ (64:Int)<((ps.length:Nat):Int):=by omega
 have cv:=zY.q0 rfl;have HY:=hide hY;have HJ:=hide hJ;clear hY hJ;refine callsIn_of_wp func264 rfl trivial ?_ rfl;simp only [ntmps264,List.size_toArray,List.length_cons,List.length_nil,Nat.reduceAdd,Nat.reduceSub,Array.replicate_succ,Array.replicate_zero,List.push_toArray,List.append_toArray,List.nil_append,List.cons_append];gi_wp2
 gi_loopw [16] (fun i wr=>∃ k:Nat,k<=ps.length/\i=.int .i64 k/\J (List.range k) wr/\Z8 PE W wr)
  (fun i _=>ps.length - (intOf i).toNat)
 case atStart=>exact ⟨0,Nat.zero_le _,rfl,h0,Z8.refl _ _⟩
 case round =>
  obtain ⟨k,hk,rfl,hJs,hkp⟩:=hrel
  by_cases hlt:k<ps.length
  · have cvr:wr.cell? ⟨Bv,0,none⟩=some (.slice A ps.length c):=(zY.kept hkp mI).q0 rfl;have hsr:=(hs.kept hkp).sl LG;have Uj:((k:Nat):Int)<((ps.length:Nat):Int):=(by omega);obtain ⟨nx,hnx⟩:=eE ((k+1) % ps.length);have hnl:nx<ps.length:=(by rw [hnx];exact Nat.mod_lt _ (by omega));have zhh:((nx:Nat):Int)<((ps.length:Nat):Int):=(by omega);have hm:((k:Int)+1) % ((ps.length:Nat):Int)=(nx:Int):=(by rw [hnx];rfl);obtain ⟨b,off,rfl,hb⟩:=Vn hsr (by omega);obtain ⟨a0,a1⟩:=XE hsr hlt;obtain ⟨b0,b1⟩:=XE hsr hnl;have hJd:J (List.range k) wr.drew:=HJ.out _ _ _ none hJs (zX wr) (fun r e=>by cases e);obtain ⟨fn,tmps,assign,body,hy,hR⟩:=HY.out (List.range k) k wr.drew hJd (by simpa using hlt);unfold nX at hy;rw [<- hnx] at hy
    have hR2:=hide (hR.mono (R':=fun e W'=>∃ r,e=.returned (.bool r)/\(r=true->J (List.range (k+1)) W'/\Z8 PE wr W')/\(r=false->Jx (List.range (k+1)) W')) (by
     rintro e W' (⟨rfl,h1,h2⟩|⟨rfl,h1⟩)
     · exact ⟨true,rfl,fun _=>⟨by rw [List.range_succ];exact h1,(Z8.drew PE wr).trans h2⟩,fun h=>by cases h⟩
     · exact ⟨false,rfl,(fun h=>by cases h),fun _=>by rw [List.range_succ];exact h1⟩))
    generalize hpk:Z4 ps k=pk at *;generalize hpn:Z4 ps nx=pn at *;obtain ⟨x1,y1⟩:=pk;obtain ⟨x2,y2⟩:=pn;have zod:(nx:Int)*2=((nx*2:Nat):Int):=(by omega);clear hR hJd hJs hpk hpn hsr hnx zod;dsimp only at *;have Wj:prog.follows .mixedOrders=true:=(by kernel_rfl);have hpre:List.range (k+1) <+: List.range ps.length:=by
     have e:List.range (k+1)=(List.range ps.length).take (k+1):=(by rw [List.take_range,Nat.min_eq_left (by omega)]);rw [e];exact List.take_prefix _ _
    gi_wp2;rw [hm]
    gi_region_with_o (refine hR2.out.mono ?_;rintro e W3 ⟨r,rfl,hr1,hr2⟩)
    all_goals
     have HR1:=hide hr1;have HR2:=hide hr2;clear hr1 hr2 hy hR2;cases r with
     | false =>
       gi_wp2;refine bodyPost_ret (results_none rfl _ _ _) rfl ?_;exact ⟨⟨_,rfl⟩,.inr ⟨List.range (k+1),hpre,by simpa using HR2.out⟩⟩
     | true =>
       gi_wp2;go_roundw
       case rel=>exact ⟨k+1,by omega,by go_num,(HR1.out rfl).1,hkp.trans (HR1.out rfl).2⟩
       case measure=>simp [intOf];omega
  · obtain rfl:k=ps.length:=(by omega);gi_wp2;go_end0;exact ⟨⟨_,rfl⟩,.inl ⟨_,rfl,hJs⟩⟩
theorem MJ(n:Nat)(hn1:1<=n)(Bv:Nat)(PE:Nat->Prop)(ps:List Pt)(A:Option Addr)(c:Nat)(w:World)(LG:∀ k,PE k->k<w.heap.size)(mI:PE Bv)(zY:Z6 w Bv 59 #[.slice A ps.length c])(hs:U2 w PE A (Zc ps)):
 SeqStopsK Fence.wide n prog 264 #[.pointer (some ⟨Bv,0,none⟩)] (nX ps) (Z8 PE) (fun ys=>ys=List.range (ZA ps.length)) (fun pre=>pre <+: List.range (ZA ps.length)) (ZA ps.length) w:=by
 intro l J Jx W hW hJ _ hY h0;have hk:Z8 PE w W:=Z8.of_below hW LG;have hB:Z6 W Bv 59 #[.slice A ps.length c]:=zY.step hW
 by_cases h:3<=ps.length/\ps.length<=64
 · exact vv n hn1 l Bv PE ps h.1 h.2 A c J Jx W hJ (fun k hp=>Nat.lt_of_lt_of_le (LG k hp) hW.size) mI hY hB (hs.kept hk) h0
 · refine (Dm n l Bv ps h A c W (hB.q0 rfl)).mono ?_;rintro e W' ⟨hv,rfl⟩;exact ⟨hv,.inl ⟨[],by unfold ZA;rw [if_neg h];rfl,h0⟩⟩
theorem Ht(v:Value)(A:Option Addr)(n c:Nat)(hv:v=.slice A n c)(w:World):
 Calls prog 247 #[v] w fun e w'=>e=.returned (.func (.func 264) #[] #[.pointer (some ⟨w.heap.size,0,none⟩)])/\w'=w.alloc (.cells #[.slice A n c] 59):=by
 subst hv;go_enter func247,ntmps247;go_wp2;go_ret;exact ⟨rfl,rfl⟩
end
section
open Go.RowKit Go.Shelf
attribute [local go_sem] Oper.semAt_some
theorem Xh{β:Type}(B:Nat)(t:TypeId)(f:β->Array Value):Own (fun s W=>Z6 W B t (f s)):=fun s X Y row hs hg hrow =>
 (hg.block B hs.lt (fun e'=>by obtain ⟨o,ho,hc⟩:=hrow B e'.symm;rw [show X.heap[B]?=_ from hs] at ho;cases ho;cases hc)).trans hs
theorem KeepsFrom.of_below{B:Nat}{W W':World}(h:Below W.heap.size W W'):KeepsFrom B W W' :=
 ⟨h.size,fun k _ _ hk _=>(h.block k (Array.getElem?_eq_some_iff.1 hk).1).trans hk⟩
def VK(s:Int)(ps:List Pt)(p:Pt)(i:Nat):Int:=s*(ZF (Z4 ps i) (Z4 ps ((i+1) % ps.length)) p).sign
def WM(s:Int)(ps:List Pt)(p:Pt)(pre:List Nat):Bool × Bool :=
 pre.foldl (fun st i=>((bif decide (i=0) then false else st.1) || decide (VK s ps p i<0),st.2 || decide (VK s ps p i=0))) (true,false)
theorem Ip(s:Int)(ps:List Pt)(p:Pt)(pre:List Nat)(i:Nat):WM s ps p (pre++[i]) =
 ((bif decide (i=0) then false else (WM s ps p pre).1) || decide (VK s ps p i<0),(WM s ps p pre).2 || decide (VK s ps p i=0)):=by
 simp [WM]
def Uk(ps:List Pt)(p:Pt):Int:=JH (WM (Z5 ps) ps p (List.range (ZA ps.length))).1 (WM (Z5 ps) ps p (List.range (ZA ps.length))).2
theorem Rl(a b:Bool):bits BinOp.or IntKind.u64 (Zy a) (Zy b)=Zy (a || b):=by cases a <;> cases b <;> decide
theorem SV(ps:List Pt):(Z5 ps).sign=Z5 ps:=by
 unfold Z5;split
 · exact Int.sign_sign
 · rfl
theorem Ld(ps:List Pt)(p:Pt)(i:Nat):IntKind.i64.wrap (Z5 ps*(ZF (Z4 ps i) (Z4 ps ((i+1) % ps.length)) p).sign)=VK (Z5 ps) ps p i:=by
 have h:=Ud (Z5 ps) (ZF (Z4 ps i) (Z4 ps ((i+1) % ps.length)) p);rw [SV] at h;exact h
theorem Lc(ps:List Pt)(p:Pt)(i:Nat):-1<=VK (Z5 ps) ps p i/\VK (Z5 ps) ps p i<=1:=by
 unfold VK;rw [<- SV];rcases WW (Z5 ps) with h|h|h <;> rcases WW (ZF (Z4 ps i) (Z4 ps ((i+1) % ps.length)) p) with h'|h'|h' <;> rw [h,h'] <;> decide
theorem Vf{x:Int}(h0:-1<=x)(h1:x<=1):(0<=IntKind.u64.wrap x/\IntKind.u64.wrap x<18446744073709551616)/\decide (IntKind.u64.wrap x=0)=decide (x=0):=by
 have h:x=-1\/x=0\/x=1:=by omega
 rcases h with rfl|rfl|rfl <;> decide
def Also(P:Nat->Prop)(b k:Nat):Prop:=P k\/k=b
theorem CZ{F:Nat}{a b d:Value}{k:IntKind}{x y:Int}{w:World}{R:Ending->World->Prop}(h:Calls prog F #[a,b,.int k x,d] w R)(e:y=x):Calls prog F #[a,b,.int k y,d] w R:=by rw [e];exact h
def YG(pre:List Nat):List Ev:=pre.map fun (i:Nat)=>(5,(i:Int),0)
theorem MW.kept{w w':World}{P:Nat->Prop}(h:MW w)(hk:Z8 P w w')(h0:P 3):MW w':=⟨⟨(hk.cell h0 _).trans h.1.1,(hk.cell h0 _).trans h.1.2⟩,Nat.lt_of_lt_of_le h.2 hk.size⟩
theorem KF(P:Nat->Prop)(t:Option (Nat × Nat))(es:List Ev)(ps:List Pt)(hps:Tq ps)(hn:ps.length<=10000)(A:Option Addr)(c:Nat)(p:Pt)(hp:PJ p)(w:World)(hP:∀ k,P k->k<w.heap.size)(hg0:P 3)(hs:U2 w P A (Zc ps))(hw:MW w)(ht:Tp w P t es)(hl:es.length<=900000):
 Calls prog 222 #[.pointer (Zu t),.slice A ps.length c,.agg #[.int .i64 p.1,.int .i64 p.2]] w fun e w'=>e=.returned (.int .i64 (Uk ps p))/\Z8 P w w'/\Tp w' P t (es++YG (List.range (ZA ps.length))):=by
 obtain ⟨w0,hw0⟩:=eE ((w.alloc (.cells #[.pointer (Zu t)] 51)).alloc (.cells #[.int .i64 p.1,.int .i64 p.2] 123));have hb0:=bF hw0;have T0:Z6 w0 w.heap.size 51 #[.pointer (Zu t)]:=by rw [hw0];exact (Z6.new _ _ _).alloc _
 have P0:Z6 w0 (w.heap.size+1) 123 #[.int .i64 p.1,.int .i64 p.2]:=by rw [hw0];exact Z6.new2 _ _ _ _
 have CP:=hide (Sk ps hps hn A c w0 (((hs.sl hP).below hb0).more hb0.size) (hw.step hb0));refine (callsIn_wide (n:=6)).1 ?_;refine callsIn_of_wp_marks func222 rfl trivial ?_ rfl;simp only [ntmps222,List.size_toArray,List.length_cons,List.length_nil,Nat.reduceAdd,Nat.reduceSub,Array.replicate_succ,Array.replicate_zero,List.push_toArray,List.append_toArray,List.nil_append,List.cons_append];gi_wp2_with fail;rw [<- hw0];have HW0:=hide hw0;clear hw0;refine ⟨trivial,?_⟩;refine (callsIn_wide.2 CP.out).mono ?_;rintro e w1 ⟨rfl,hb1⟩;obtain ⟨g,hg⟩:=eE w1.heap.size;obtain ⟨w2,hw2⟩:=eE (w1.alloc (.cells #[.int .i64 (Z5 ps)] 2));gi_wp2_with fail;rw [<- hw2];have gG:=hide (PY 1 (by omega) (by omega) w2);refine ⟨trivial,?_⟩;refine (callsIn_wide.2 gG.out).mono ?_;rintro e w2' ⟨rfl,rfl⟩;gi_wp2_with fail;refine ⟨trivial,?_⟩;refine (callsIn_wide.2 (Ht _ A ps.length c rfl _)).mono ?_;rintro e w3 ⟨rfl,rfl⟩;have hs2:(((w1.alloc (.cells #[.int .i64 (Z5 ps)] 2)).alloc (.cells #[.int .u64 (Zy true)] 124)).alloc (.cells #[.int .u64 0] 124)).heap.size=g+1+1+1:=by simp [hg]
 rw [hs2];have G0:Z6 ((((w1.alloc (.cells #[.int .i64 (Z5 ps)] 2)).alloc (.cells #[.int .u64 (Zy true)] 124)).alloc (.cells #[.int .u64 0] 124)).alloc (.cells #[.slice A ps.length c] 59)) g 2 #[.int .i64 (Z5 ps)]:=by
  rw [hg];exact (((Z6.new _ _ _).alloc _).alloc _).alloc _
 have G1:Z6 ((((w1.alloc (.cells #[.int .i64 (Z5 ps)] 2)).alloc (.cells #[.int .u64 (Zy true)] 124)).alloc (.cells #[.int .u64 0] 124)).alloc (.cells #[.slice A ps.length c] 59)) (g+1) 124 #[.int .u64 (Zy true)]:=by
  rw [hg];exact ((Z6.new2 _ _ _ _).alloc _).alloc _
 have G2:Z6 ((((w1.alloc (.cells #[.int .i64 (Z5 ps)] 2)).alloc (.cells #[.int .u64 (Zy true)] 124)).alloc (.cells #[.int .u64 0] 124)).alloc (.cells #[.slice A ps.length c] 59)) (g+1+1) 124 #[.int .u64 0]:=by
  have h2:=(Z6.new ((w1.alloc (.cells #[.int .i64 (Z5 ps)] 2)).alloc (.cells #[.int .u64 (Zy true)] 124)) 124 #[.int .u64 0]).alloc (.cells #[.slice A ps.length c] 59);simp only [World.size_alloc,<- hg] at h2;exact h2
 have G3:Z6 ((((w1.alloc (.cells #[.int .i64 (Z5 ps)] 2)).alloc (.cells #[.int .u64 (Zy true)] 124)).alloc (.cells #[.int .u64 0] 124)).alloc (.cells #[.slice A ps.length c] 59)) (g+1+1+1) 59 #[.slice A ps.length c]:=by
  have h2:=Z6.new (((w1.alloc (.cells #[.int .i64 (Z5 ps)] 2)).alloc (.cells #[.int .u64 (Zy true)] 124)).alloc (.cells #[.int .u64 0] 124)) 59 #[.slice A ps.length c];rw [hs2] at h2;exact h2
 have hb4:Below w1.heap.size w1 ((((w1.alloc (.cells #[.int .i64 (Z5 ps)] 2)).alloc (.cells #[.int .u64 (Zy true)] 124)).alloc (.cells #[.int .u64 0] 124)).alloc (.cells #[.slice A ps.length c] 59)):=Z7 (Z7 (Z7 (bA) _) _) _;have hs4:((((w1.alloc (.cells #[.int .i64 (Z5 ps)] 2)).alloc (.cells #[.int .u64 (Zy true)] 124)).alloc (.cells #[.int .u64 0] 124)).alloc (.cells #[.slice A ps.length c] 59)).heap.size=g+4:=by simp [hg]
 obtain ⟨W4,oL⟩:∃ W4,((((w1.alloc (.cells #[.int .i64 (Z5 ps)] 2)).alloc (.cells #[.int .u64 (Zy true)] 124)).alloc (.cells #[.int .u64 0] 124)).alloc (.cells #[.slice A ps.length c] 59))=W4:=⟨_,rfl⟩;rw [oL] at G0 G1 G2 G3 hb4 hs4;gi_wp2_with fail;rw [<- hg];have hB4:Below w.heap.size w W4:=Z9 (Z9 hb0 hb1) hb4;have hgw:w.heap.size+2<=g:=by
  have h1:=hb1.size;have h2:w0.heap.size=w.heap.size+2:=by rw [HW0.out];simp
  omega
 have T4:=(T0.step hb1).step hb4;have P4:=(P0.step hb1).step hb4;have G7:=hide hps;have HP:=hide hp;have HW:=hide hw;have HSL:=hide (hs.kept (Z8.of_below hB4 hP))
 have LG:∀ k,Also P (g+1+1+1) k->k<W4.heap.size:=fun k hk=>by
  rcases hk with hk|hk
  · exact Nat.lt_of_lt_of_le (hP k hk) hB4.size
  · omega
 have Js:=ht.more hB4;have hmb:∀ u,t=some u->u.2<W4.heap.size:=fun u hu=>Nat.lt_of_lt_of_le (ht.aP u hu) hB4.size;have hE1:¬ Also P (g+1+1+1) (g+1):=by
  rintro (h|h)
  · have:=hP _ h;omega
  · omega
 have hE2:¬ Also P (g+1+1+1) (g+1+1):=by
  rintro (h|h)
  · have:=hP _ h;omega
  · omega
 have hM:∀ k,w.heap.size<=k->k<g+4->More P w W4 k:=fun k h1 h2=>.inr ⟨h1,by omega⟩;have l9:=hide (hM w.heap.size (by omega) (by omega));have l8:=hide (hM (w.heap.size+1) (by omega) (by omega));have dK:=hide (hM g (by omega) (by omega));have tL:=hide (hM (g+1) (by omega) (by omega));have HMN:=hide (hM (g+1+1) (by omega) (by omega));have HMV:=hide (hM (g+1+1+1) (by omega) (by omega));have dY:Z8 P w W4:=Z8.of_below hB4 hP;have Aa:∀ k,Also P (g+1+1+1) k->k<W4.heap.size/\k<W4.heap.size:=fun k hk=>⟨LG k hk,LG k hk⟩;have hPM:∀ k,More P w W4 k->k<W4.heap.size:=Yg hP hB4;have NZ:=hide hE1;have HE2:=hide hE2;have Lu:=hide LG;have zf:=hide hmb;have HT4:=hide Js;have Mv:=hide dY;have mX:=hide Aa;have HPM:=hide hPM;have JO:=hide hg0;clear hE1 hE2 LG hmb Js hM dY Aa hPM hg0 ht hP;clear oL hg hs2 gG CP T0 P0 hps hp hw hs hb0 hb1 hb4 HW0 hB4
 refine wpIn_rangeFunc_ownH rfl (by omega) (gf:=264) (lb:=#[.pointer (some ⟨g+1+1+1,0,none⟩)]) rfl trivial (enters_of func264 (by kernel_rfl) rfl)
  (MJ 5 (by omega) (g+1+1+1) (Also P (g+1+1+1)) ps A c W4 Lu.out (.inr rfl) G3 (HSL.out.mono fun k h=>.inl h)) Z8.trans (fun W l o o' hl _ _ _=>Z8.putObj o' (fun h=>by have:=Lu.out _ h;omega) W) (Below.refl _ _) (fun _=>rfl)
  (fun pre W=>(((Z6 W w.heap.size 51 #[.pointer (Zu t)]/\Z6 W (w.heap.size+1) 123 #[.int .i64 p.1,.int .i64 p.2])/\Z6 W g 2 #[.int .i64 (Z5 ps)])/\(Z6 W (g+1) 124 #[.int .u64 (Zy (WM (Z5 ps) ps p pre).1)]/\Z6 W (g+1+1) 124 #[.int .u64 (Zy (WM (Z5 ps) ps p pre).2)]))/\(Z8 (Also P (g+1+1+1)) W4 W/\Tp W (More P w W4) t (es++YG pre)))
  (fun _ _ _=>False)
  (OwnFrom.and (OwnFrom.and (OwnFrom.and (OwnFrom.and (Own.from (Xh _ _ _) _) (Own.from (Xh _ _ _) _)) (Own.from (Xh _ _ _) _)) (OwnFrom.and (Own.from (Xh _ _ _) _) (Own.from (Xh _ _ _) _))) (OwnFrom.and (TY mX.out) (V5 _ (More P w W4) t (fun pre=>es++YG pre) zf.out)))
  (fun _ _ _ _ _ hs _ _=>hs)
  ⟨⟨⟨⟨T4,P4⟩,G0⟩,G1,G2⟩,Z8.refl _ _,by simpa [YG] using HT4.out⟩
  (fun x a' W=>∃ Bx es',g+1+1<Bx/\Tp W (Also (More P w W4) Bx) t es'/\Z6 W Bx 300 #[.int .i64 (x:Int),.int .i64 (((x:Int)+1) % (ps.length:Int)),.int .i64 (Z4 ps x).1,.int .i64 (Z4 ps x).2,.int .i64 (Z4 ps ((x+1) % ps.length)).1,.int .i64 (Z4 ps ((x+1) % ps.length)).2]/\a'={ tmps:=#[.pointer (Zu t),.slice A ps.length c,.agg #[.int .i64 p.1,.int .i64 p.2],.pointer (some ⟨w.heap.size,0,none⟩),undef,.pointer (some ⟨w.heap.size+1,0,none⟩),.int .i64 0,.pointer (some ⟨g,0,none⟩),.pointer (some ⟨g+1,0,none⟩),.pointer (some ⟨g+1+1,0,none⟩),.pointer (some ⟨Bx,0,none⟩),undef,.slice A ps.length c,.int .i64 (Z5 ps),.int .u64 (Zy true),.slice A ps.length c,.func (.func 264) #[] #[.pointer (some ⟨g+1+1+1,0,none⟩)],.agg #[.int .i64 (x:Int),.int .i64 (((x:Int)+1) % (ps.length:Int)),.int .i64 (Z4 ps x).1,.int .i64 (Z4 ps x).2,.int .i64 (Z4 ps ((x+1) % ps.length)).1,.int .i64 (Z4 ps ((x+1) % ps.length)).2],undef,undef,undef,undef,undef,undef,undef,undef,undef,undef,undef,undef,undef,undef,undef,undef,undef,undef,undef,undef,undef,undef,undef,undef,undef,undef,undef],defers:=[] })
  (fun x a' _ X Y row hs hg hr=>by obtain ⟨Bx,es',h1,hT,h2,h3⟩:=hs;exact ⟨Bx,es',h1,V5 _ _ t (fun _:Unit=>es') zf.out () X Y row hT hg hr,Xh Bx 300 (fun (_:Unit)=>#[.int .i64 (x:Int),.int .i64 (((x:Int)+1) % (ps.length:Int)),.int .i64 (Z4 ps x).1,.int .i64 (Z4 ps x).2,.int .i64 (Z4 ps ((x+1) % ps.length)).1,.int .i64 (Z4 ps ((x+1) % ps.length)).2]) () X Y row h2 hg (fun r e=>(hr r e).2),h3⟩)
  ?assign ?body ?done ?stop
 case assign =>
  rintro l pre x W K ⟨⟨⟨⟨T1,P1⟩,S1⟩,O1,N1⟩,hB1,hT1⟩ hK;have hlt:g+1+1<W.heap.size:=N1.lt;unfold nX;gi_wp2;have dX:∀ k,Also P (g+1+1+1) k->k<W.heap.size:=fun k hk=>Nat.lt_of_lt_of_le (Lu.out k hk) hB1.size;refine hK _ _ ((KeepsOthers.alloc _ _).from _) (Z8.of_below (bA) dX) ⟨⟨⟨⟨T1.alloc _,P1.alloc _⟩,S1.alloc _⟩,O1.alloc _,N1.alloc _⟩,hB1.trans (Z8.of_below (bA) dX),hT1.step (bA)⟩ ⟨W.heap.size,es++YG pre,hlt,?_,Z6.new _ _ _,rfl⟩;refine (hT1.add (R:=Also (More P w W4) W.heap.size) fun k hk=>?_).step (bA);rcases hk with hk|hk
  · exact .inl hk
  · exact .inr (by omega)
 case body =>
  rintro l pre x a' W hl _ ⟨⟨⟨⟨T1,P1⟩,S1⟩,O1,N1⟩,hB1,hT1⟩ ⟨Bx,es',hBx,hTx,bX,rfl⟩ hpl;have hszW:W4.heap.size<=W.heap.size:=hB1.size;have iK:=hT1.with hTx
  clear hT1 hTx;have Wj:prog.follows .mixedOrders=true:=by kernel_rfl
  have t0:=T1.q0 rfl;have x0:=bX.q0 rfl;have o0:=O1.frozen 0;have hgs:g+1+1<W.heap.size:=N1.lt;obtain ⟨o5,ho5⟩:=eE ((bif decide (x=0) then false else (WM (Z5 ps) ps p pre).1));have HIN:∃ Wi,(if x=0 then Wi=W.setCell ⟨g+1,0,none⟩ (.int .u64 0) else Wi=W)/\(Z6 Wi w.heap.size 51 #[.pointer (Zu t)]/\Z6 Wi (w.heap.size+1) 123 #[.int .i64 p.1,.int .i64 p.2])/\Z6 Wi g 2 #[.int .i64 (Z5 ps)]/\Z6 Wi (g+1) 124 #[.int .u64 (Zy o5)]/\Z6 Wi (g+1+1) 124 #[.int .u64 (Zy (WM (Z5 ps) ps p pre).2)]/\Z6 Wi Bx 300 #[.int .i64 (x:Int),.int .i64 (((x:Int)+1) % (ps.length:Int)),.int .i64 (Z4 ps x).1,.int .i64 (Z4 ps x).2,.int .i64 (Z4 ps ((x+1) % ps.length)).1,.int .i64 (Z4 ps ((x+1) % ps.length)).2]/\Z8 (Also P (g+1+1+1)) W Wi/\KeepsFrom W4.heap.size W Wi/\Tp Wi (Also (More P w W4) Bx) t (es++YG pre):=by
   by_cases hx:x=0
   · refine ⟨W.setCell ⟨g+1,0,none⟩ (.int .u64 0),by rw [if_pos hx],⟨T1.far (by dsimp only;omega) _,P1.far (by dsimp only;omega) _⟩,S1.far (by dsimp only;omega) _,?_,N1.far (by dsimp only;omega) _,bX.far (by dsimp only;omega) _,Z8.setCell NZ.out _ _ _,(KeepsOthers.setCell _ _ _).from _,iK.set (.inl tL.out) _ _⟩;have h:=O1.set 0 (.int .u64 0);rw [ho5,decide_eq_true hx];exact h
   · refine ⟨W,by rw [if_neg hx],⟨T1,P1⟩,S1,?_,N1,bX,Z8.refl _ _,KeepsFrom.refl _ _,iK⟩;rw [ho5,decide_eq_false hx];exact O1
  obtain ⟨Wi,oM,⟨Ti,Pi⟩,Si,Oi,Ni,Xi,hKi,hFi,hTi⟩:=HIN;have hBi:Z8 (Also P (g+1+1+1)) W4 Wi:=hB1.trans hKi
  have hsub:∀ k,Also P (g+1+1+1) k->Also (More P w W4) Bx k:=fun k hk=>by
   rcases hk with hk|hk
   · exact .inl (.inl hk)
   · subst hk;exact .inl HMV.out
  have tV:∀ k,Also (More P w W4) Bx k->k<Wi.heap.size:=fun k hk=>by
   rcases hk with hk|hk
   · have:=HPM.out k hk;have:=hBi.size;omega
   · subst hk;exact Xi.lt
  have hpx:(es++YG pre).length<=1000000:=by
   have:ZA ps.length<=64:=(by unfold ZA;split <;> omega);simp [YG];omega
  have zmu:=Vb (Also (More P w W4) Bx) t (es++YG pre) 5 (x:Int) 0 Wi tV hTi hpx (by unfold Yu;omega);have RU:=hide (fun (xi:Int) (he:xi=(x:Int))=>CZ zmu he);clear zmu;have Tv:=hide (fun W5 (hM:MW W5)=>UF (Z4 ps x) (Z4 ps ((x+1) % ps.length)) p (G7.out.at_ _) (G7.out.at_ _) HP.out W5 hM);have hwr:=Ld ps p x;have hsb:=Lc ps p x;have E8:=hide (Ip (Z5 ps) ps p pre x);rw [<- ho5] at E8;have ti:=Ti.q0 rfl;have xi:=Xi.q0 rfl
  have Fj:Hid (∀ W8,Z8 (Also P (g+1+1+1)) Wi W8->KeepsFrom W4.heap.size Wi W8->Z6 W8 w.heap.size 51 #[.pointer (Zu t)]->Z6 W8 (w.heap.size+1) 123 #[.int .i64 p.1,.int .i64 p.2]->Z6 W8 g 2 #[.int .i64 (Z5 ps)]->Z6 W8 (g+1) 124 #[.int .u64 (Zy (o5 || decide (VK (Z5 ps) ps p x<0)))]->Z6 W8 (g+1+1) 124 #[.int .u64 (Zy ((WM (Z5 ps) ps p pre).2 || decide (VK (Z5 ps) ps p x=0)))]->Tp W8 (Also (More P w W4) Bx) t (es++YG pre++[(5,(x:Int),0)]) ->
   KeepsFrom W4.heap.size W W8/\Z8 (Also P (g+1+1+1)) W W8/\(((Z6 W8 w.heap.size 51 #[.pointer (Zu t)]/\Z6 W8 (w.heap.size+1) 123 #[.int .i64 p.1,.int .i64 p.2])/\Z6 W8 g 2 #[.int .i64 (Z5 ps)])/\(Z6 W8 (g+1) 124 #[.int .u64 (Zy (WM (Z5 ps) ps p (pre++[x])).1)]/\Z6 W8 (g+1+1) 124 #[.int .u64 (Zy (WM (Z5 ps) ps p (pre++[x])).2)]))/\(Z8 (Also P (g+1+1+1)) W4 W8/\Tp W8 (More P w W4) t (es++YG (pre++[x])))) :=
   hide fun W8 hk hf h1 h2 h3 h4 h5 h6=>⟨hFi.trans hf,hKi.trans hk,⟨⟨⟨h1,h2⟩,h3⟩,by rw [E8.out];exact h4,by rw [E8.out];exact h5⟩,hBi.trans hk,by
    have h7:=h6.mono (R:=More P w W4) (fun k h=>.inl h);rw [List.append_assoc] at h7;rw [show YG (pre++[x])=YG pre++[(5,(x:Int),0)] by simp [YG]]
    exact h7⟩
  have zin:Hid (x=0->Wi=W.setCell ⟨g+1,0,none⟩ (.int .u64 0))/\Hid (x≠0->Wi=W):=⟨hide fun h=>by rw [if_pos h] at oM;exact oM,hide fun h=>by rw [if_neg h] at oM;exact oM⟩;obtain ⟨Tm,Qp⟩:=zin;have Mc:=hide hsub;have dF:=hide tV;have uq:=hide hBi;clear oM hKi hFi E8 ho5 hsub tV hBi hB1 iK hTi hpx hpl hszW;have hx:x=0\/x≠0:=by omega
  have hgw1:w.heap.size≠g+1:=by omega
  have zgo:w.heap.size+1≠g+1:=by omega
  have zgp:Bx≠g+1:=by omega
  rcases hx with hx|hx
  · have hxi:(x:Int)=0:=(by omega);have oM:=Tm.out hx;have o1:=O1.q0 rfl;clear hx;clear Tm Qp T1 P1 S1 O1 N1 bX;gi_wp2_with fail;refine ⟨trivial,?_⟩;rw [<- oM];have HWi:=hide oM;clear oM;refine (CallsIn.inRound l (callsIn_wide.2 (RU.out 0 hxi.symm))).mono ?_;rintro e W5 ⟨rfl,hkn,hmn,Rf⟩;have tV:=dF.out;have T5:=Ti.kept hkn (.inl l9.out);have P5:=Pi.kept hkn (.inl l8.out);have S5:=Si.kept hkn (.inl dK.out);have O5:=Oi.kept hkn (.inl tL.out);have N5:=Ni.kept hkn (.inl HMN.out);have X5:=Xi.kept hkn (.inr rfl);have hki:Z8 (Also P (g+1+1+1)) Wi W5:=hkn.mono Mc.out;have hfi:KeepsFrom W4.heap.size Wi W5:=hmn.from zf.out;have mW:=hide (fun W8 (hk:Z8 (Also P (g+1+1+1)) W5 W8) (hf:KeepsFrom W4.heap.size W5 W8)=>Fj.out W8 (hki.trans hk) (hfi.trans hf));have hb4:=uq.out.trans hki;have oI:∀ k,Also P (g+1+1+1) k->k<W5.drew.heap.size:=fun k hk=>Nat.lt_of_lt_of_le (Lu.out k hk) hb4.size;have xO:=hide (Tv.out W5.drew ((HW.out.kept (Mv.out.trans (hb4.mono fun k h=>.inl h)) JO.out).step (ZV (Below.refl _ _))));have x5:=X5.q0 rfl;clear hkn hmn hki hfi hb4 tV Ti Pi Si Oi Ni Xi ti xi Fj uq Tv RU Mc dF;gi_wp2_with fail;clear hxi;refine Xy 1000 (S:=fun w'=>Z6 w' g 2 #[.int .i64 (Z5 ps)]/\Z6 w' Bx 300 #[.int .i64 (x:Int),.int .i64 (((x:Int)+1) % (ps.length:Int)),.int .i64 (Z4 ps x).1,.int .i64 (Z4 ps x).2,.int .i64 (Z4 ps ((x+1) % ps.length)).1,.int .i64 (Z4 ps ((x+1) % ps.length)).2]/\Z6 w' (w.heap.size+1) 123 #[.int .i64 p.1,.int .i64 p.2]) Wj ?_;have hS:Z6 W5.drew g 2 #[.int .i64 (Z5 ps)]/\Z6 W5.drew Bx 300 #[.int .i64 (x:Int),.int .i64 (((x:Int)+1) % (ps.length:Int)),.int .i64 (Z4 ps x).1,.int .i64 (Z4 ps x).2,.int .i64 (Z4 ps ((x+1) % ps.length)).1,.int .i64 (Z4 ps ((x+1) % ps.length)).2]/\Z6 W5.drew (w.heap.size+1) 123 #[.int .i64 p.1,.int .i64 p.2]:=⟨S5,X5,P5⟩;refine' ZU (i:=0) rfl ?Rh hS ?OY
    case Rh =>
     intro w' hSw;obtain ⟨s1,s2,s3⟩:=hSw;have z1:=s1.q0 rfl;have z2:=s2.q2 rfl;have z3:=s2.q3 rfl;have z4:=s2.q4 rfl;have z5:=s2.q5 rfl;have z6:=s3.q0 rfl;have z7:=s3.q1 rfl;go_simp;rfl
    simp only [Act.put,getElem_toArray,getElem_cons_zero,setIfInBounds_toArray,set_cons_zero,set_cons_succ];refine' ZU (i:=1) rfl ?Ri hS ?OZ
    case Ri =>
     intro w' hSw;go_simp;rfl
    simp only [Act.put,ZX];refine' ZU (i:=2) rfl ?OE hS ?LV
    case OE =>
     intro w' hSw;obtain ⟨s1,s2,s3⟩:=hSw;have z1:=s1.q0 rfl;have z2:=s2.q2 rfl;have z3:=s2.q3 rfl;have z4:=s2.q4 rfl;have z5:=s2.q5 rfl;have z6:=s3.q0 rfl;have z7:=s3.q1 rfl;go_simp;rfl
    simp only [Act.put,ZX];refine' ZU (i:=3) rfl ?OG hS ?LW
    case OG =>
     intro w' hSw;go_simp;rfl
    simp only [Act.put,ZX];refine' ZU (i:=4) rfl ?Kz hS ?F9
    case Kz =>
     intro w' hSw;obtain ⟨s1,s2,s3⟩:=hSw;have z1:=s1.q0 rfl;have z2:=s2.q2 rfl;have z3:=s2.q3 rfl;have z4:=s2.q4 rfl;have z5:=s2.q5 rfl;have z6:=s3.q0 rfl;have z7:=s3.q1 rfl;go_simp;rfl
    simp only [Act.put,ZX];refine' ZU (i:=5) rfl ?KA hS ?Ga
    case KA =>
     intro w' hSw;obtain ⟨s1,s2,s3⟩:=hSw;have z1:=s1.q0 rfl;have z2:=s2.q2 rfl;have z3:=s2.q3 rfl;have z4:=s2.q4 rfl;have z5:=s2.q5 rfl;have z6:=s3.q0 rfl;have z7:=s3.q1 rfl;go_simp;rfl
    simp only [Act.put,ZX];refine Yi (i:=6) (by kernel_rfl) rfl ?_;intro K hK;rw [if_pos (by rfl)];go_simp;refine ⟨trivial,?_⟩;refine (CallsIn.inRound l (callsIn_wide.2 xO.out)).mono ?_;rintro e W6 ⟨rfl,hb6⟩;have RZ:Z6 W6 g 2 #[.int .i64 (Z5 ps)]/\Z6 W6 Bx 300 #[.int .i64 (x:Int),.int .i64 (((x:Int)+1) % (ps.length:Int)),.int .i64 (Z4 ps x).1,.int .i64 (Z4 ps x).2,.int .i64 (Z4 ps ((x+1) % ps.length)).1,.int .i64 (Z4 ps ((x+1) % ps.length)).2]/\Z6 W6 (w.heap.size+1) 123 #[.int .i64 p.1,.int .i64 p.2]:=⟨S5.drew.step hb6,X5.drew.step hb6,P5.drew.step hb6⟩;refine hK.out _ _ (fun _=>RZ) ?_;clear hK K
    (try simp only [Act.put,ZX])
    refine' ZU (i:=7) rfl ?qw RZ ?kW
    case qw =>
     intro w' hSw;go_simp;rfl
    simp only [Act.put,ZX];refine' ZU (i:=8) rfl ?zqg RZ ?zly
    case zqg =>
     intro w' hSw;go_simp;rfl
    simp only [Act.put,ZX];refine WG (by kernel_rfl) ?_ _;have T6:=T5.drew.step hb6;have O6:=O5.drew.step hb6;have N6:=N5.drew.step hb6;have R7:Z8 (Also P (g+1+1+1)) W5 W6:=(Z8.drew _ _).trans (Z8.of_below hb6 oI);have t6:Tp W6 (Also (More P w W4) Bx) t (es++YG pre++[(5,(x:Int),0)]):=Rf.drew.step hb6;have hf6:KeepsFrom W4.heap.size W5 W6:=(KeepsFrom.of_below (ZV (Below.refl _ _))).trans (KeepsFrom.of_below hb6);obtain ⟨s6,x6,p6⟩:=RZ;have HHB:=hide hb6;clear hS hb6 hwr x5 xO Rf oI;generalize VK (Z5 ps) ps p x=sd at *;have Od:=hide (Wx sd (by omega) (by omega) W6.drew);have hor:=Rl o5 (decide (sd<0));generalize hm7:(o5 || decide (sd<0))=o7 at *;gi_wp2_with fail;refine Xy 4 (S:=fun w'=>Z6 w' (g+1) 124 #[.int .u64 (Zy o5)]) Wj ?_;have hS:Z6 W6.drew (g+1) 124 #[.int .u64 (Zy o5)]:=O6;refine' ZU (i:=0) rfl ?zpt hS ?zll
    case zpt =>
     intro w' hSw;have z1:=hSw.q0 rfl;go_simp;rfl
    simp only [Act.put,getElem_toArray,getElem_cons_zero,setIfInBounds_toArray,set_cons_zero,set_cons_succ];refine' ZU (i:=1) rfl ?zxw hS ?zrd
    case zxw =>
     intro w' hSw;go_simp;rfl
    simp only [Act.put,ZX];refine Yi (i:=2) (by kernel_rfl) rfl ?_;intro K hK;rw [if_pos (by rfl)];go_simp;refine ⟨trivial,?_⟩;refine (CallsIn.inRound l (callsIn_wide.2 Od.out)).mono ?_;rintro e w' ⟨rfl,rfl⟩;refine hK.out _ _ (fun _=>hS) ?_;clear hK K
    (try simp only [Act.put,ZX])
    refine' ZU (i:=3) rfl ?zyp hS ?zrw
    case zyp =>
     intro w' hSw;go_simp;rfl
    simp only [Act.put,ZX];have c7:W6.drew.cell? ⟨g+1,0,none⟩=some (.int .u64 (Zy o5)):=hS.q0 rfl;have f7:=hS.frozen 0;refine Yi (i:=4) (by kernel_rfl) rfl ?_;intro K hK;rw [if_pos (by rfl)];go_simp;refine hK.out _ _ (fun h=>absurd rfl h) ?_;clear hK K;refine WG (by kernel_rfl) ?_ _;obtain ⟨W7,Pv⟩:=eE ((W6.setCell ⟨g+1,0,none⟩ (.int .u64 (Zy o7))).drew);rw [<- Pv];have O7:Z6 W7 (g+1) 124 #[.int .u64 (Zy o7)]:=(by rw [Pv];exact (O6.set 0 _).drew);have N7:Z6 W7 (g+1+1) 124 #[.int .u64 (Zy (WM (Z5 ps) ps p pre).2)]:=(by rw [Pv];exact (N6.far (by dsimp only;omega) _).drew);have T7:Z6 W7 w.heap.size 51 #[.pointer (Zu t)]:=(by rw [Pv];exact (T6.far (by dsimp only;omega) _).drew);have P7:Z6 W7 (w.heap.size+1) 123 #[.int .i64 p.1,.int .i64 p.2]:=(by rw [Pv];exact (p6.far (by dsimp only;omega) _).drew);have S7:Z6 W7 g 2 #[.int .i64 (Z5 ps)]:=(by rw [Pv];exact (s6.far (by dsimp only;omega) _).drew);have hk7:Z8 (Also P (g+1+1+1)) W5 W7:=(by rw [Pv];exact R7.trans ((Z8.setCell NZ.out _ _ _).trans (Z8.drew _ _)));have t7:Tp W7 (Also (More P w W4) Bx) t (es++YG pre++[(5,(x:Int),0)]):=(by rw [Pv];exact (t6.set (.inl tL.out) _ _).drew);have hf7:KeepsFrom W4.heap.size W5 W7:=(by rw [Pv];exact hf6.trans (((KeepsOthers.setCell _ _ _).from _).trans (KeepsFrom.of_below (ZV (Below.refl _ _)))));have HW7:=hide Pv;clear Pv hS hor c7 f7 R7 hf6 Od O6 N6 T6 p6 s6 x6 t6;obtain ⟨hz1,hz2⟩:=Vf hsb.1 hsb.2;have gL:=hide (TR (IntKind.u64.wrap sd) hz1.1 hz1.2 W7.drew);rw [hz2] at gL;have hor:=Rl (WM (Z5 ps) ps p pre).2 (decide (sd=0));generalize hm8:((WM (Z5 ps) ps p pre).2 || decide (sd=0))=n8 at *;generalize vP:(WM (Z5 ps) ps p pre).2=n5 at *;clear hz1 hz2;gi_wp2_with fail;refine Xy 5 (S:=fun w'=>Z6 w' (g+1+1) 124 #[.int .u64 (Zy n5)]) Wj ?_;have hS:Z6 W7.drew (g+1+1) 124 #[.int .u64 (Zy n5)]:=N7;refine' ZU (i:=0) rfl ?zxn hS ?zqu
    case zxn =>
     intro w' hSw;have z1:=hSw.q0 rfl;go_simp;rfl
    simp only [Act.put,getElem_toArray,getElem_cons_zero,setIfInBounds_toArray,set_cons_zero,set_cons_succ];refine' ZU (i:=1) rfl ?zxy hS ?zrf
    case zxy =>
     intro w' hSw;go_simp;rfl
    simp only [Act.put,ZX];refine' ZU (i:=2) rfl ?zyh hS ?zro
    case zyh =>
     intro w' hSw;go_simp;rfl
    simp only [Act.put,ZX];refine Yi (i:=3) (by kernel_rfl) rfl ?_;intro K hK;rw [if_pos (by rfl)];go_simp;refine ⟨trivial,?_⟩;refine (CallsIn.inRound l (callsIn_wide.2 gL.out)).mono ?_;rintro e w' ⟨rfl,rfl⟩;refine hK.out _ _ (fun _=>hS) ?_;clear hK K
    (try simp only [Act.put,ZX])
    refine' ZU (i:=4) rfl ?zyy hS ?zsf
    case zyy =>
     intro w' hSw;go_simp;rfl
    simp only [Act.put,ZX];have c7:W7.drew.cell? ⟨g+1+1,0,none⟩=some (.int .u64 (Zy n5)):=hS.q0 rfl;have f7:=hS.frozen 0;refine Yi (i:=5) (by kernel_rfl) rfl ?_;intro K hK;rw [if_pos (by rfl)];go_simp;refine hK.out _ _ (fun h=>absurd rfl h) ?_;clear hK K;refine WG (by kernel_rfl) ?_ _;have HF:=hide (mW.out (W7.setCell ⟨g+1+1,0,none⟩ (.int .u64 (Zy n8))).drew (hk7.trans ((Z8.setCell HE2.out _ _ _).trans (Z8.drew _ _))) (hf7.trans (((KeepsOthers.setCell _ _ _).from _).trans (KeepsFrom.of_below (ZV (Below.refl _ _))))) (T7.far (by dsimp only;omega) _).drew (P7.far (by dsimp only;omega) _).drew (S7.far (by dsimp only;omega) _).drew (O7.far (by dsimp only;omega) _).drew (N7.set 0 _).drew (t7.set (.inl HMN.out) _ _).drew);clear t7 hk7 hf7;gi_wp2_with fail;exact HF.out
  · have hxi:¬ (x:Int)=0:=(by omega);have oM:=Qp.out hx;subst oM;clear hx;clear Tm Qp T1 P1 S1 O1 N1 bX;gi_wp2_with fail;refine ⟨trivial,?_⟩;refine (CallsIn.inRound l (callsIn_wide.2 (RU.out _ rfl))).mono ?_;rintro e W5 ⟨rfl,hkn,hmn,Rf⟩;have tV:=dF.out;have T5:=Ti.kept hkn (.inl l9.out);have P5:=Pi.kept hkn (.inl l8.out);have S5:=Si.kept hkn (.inl dK.out);have O5:=Oi.kept hkn (.inl tL.out);have N5:=Ni.kept hkn (.inl HMN.out);have X5:=Xi.kept hkn (.inr rfl);have hki:Z8 (Also P (g+1+1+1)) Wi W5:=hkn.mono Mc.out;have hfi:KeepsFrom W4.heap.size Wi W5:=hmn.from zf.out;have mW:=hide (fun W8 (hk:Z8 (Also P (g+1+1+1)) W5 W8) (hf:KeepsFrom W4.heap.size W5 W8)=>Fj.out W8 (hki.trans hk) (hfi.trans hf));have hb4:=uq.out.trans hki;have oI:∀ k,Also P (g+1+1+1) k->k<W5.drew.heap.size:=fun k hk=>Nat.lt_of_lt_of_le (Lu.out k hk) hb4.size;have xO:=hide (Tv.out W5.drew ((HW.out.kept (Mv.out.trans (hb4.mono fun k h=>.inl h)) JO.out).step (ZV (Below.refl _ _))));have x5:=X5.q0 rfl;clear hkn hmn hki hfi hb4 tV Ti Pi Si Oi Ni Xi ti xi Fj uq Tv RU Mc dF;gi_wp2_with fail;clear hxi;refine Xy 1000 (S:=fun w'=>Z6 w' g 2 #[.int .i64 (Z5 ps)]/\Z6 w' Bx 300 #[.int .i64 (x:Int),.int .i64 (((x:Int)+1) % (ps.length:Int)),.int .i64 (Z4 ps x).1,.int .i64 (Z4 ps x).2,.int .i64 (Z4 ps ((x+1) % ps.length)).1,.int .i64 (Z4 ps ((x+1) % ps.length)).2]/\Z6 w' (w.heap.size+1) 123 #[.int .i64 p.1,.int .i64 p.2]) Wj ?_;have hS:Z6 W5.drew g 2 #[.int .i64 (Z5 ps)]/\Z6 W5.drew Bx 300 #[.int .i64 (x:Int),.int .i64 (((x:Int)+1) % (ps.length:Int)),.int .i64 (Z4 ps x).1,.int .i64 (Z4 ps x).2,.int .i64 (Z4 ps ((x+1) % ps.length)).1,.int .i64 (Z4 ps ((x+1) % ps.length)).2]/\Z6 W5.drew (w.heap.size+1) 123 #[.int .i64 p.1,.int .i64 p.2]:=⟨S5,X5,P5⟩;refine' ZU (i:=0) rfl ?aB hS ?ztl
    case aB =>
     intro w' hSw;obtain ⟨s1,s2,s3⟩:=hSw;have z1:=s1.q0 rfl;have z2:=s2.q2 rfl;have z3:=s2.q3 rfl;have z4:=s2.q4 rfl;have z5:=s2.q5 rfl;have z6:=s3.q0 rfl;have z7:=s3.q1 rfl;go_simp;rfl
    simp only [Act.put,getElem_toArray,getElem_cons_zero,setIfInBounds_toArray,set_cons_zero,set_cons_succ];refine' ZU (i:=1) rfl ?aD hS ?ztn
    case aD =>
     intro w' hSw;go_simp;rfl
    simp only [Act.put,ZX];refine' ZU (i:=2) rfl ?aF hS ?zto
    case aF =>
     intro w' hSw;obtain ⟨s1,s2,s3⟩:=hSw;have z1:=s1.q0 rfl;have z2:=s2.q2 rfl;have z3:=s2.q3 rfl;have z4:=s2.q4 rfl;have z5:=s2.q5 rfl;have z6:=s3.q0 rfl;have z7:=s3.q1 rfl;go_simp;rfl
    simp only [Act.put,ZX];refine' ZU (i:=3) rfl ?aG hS ?ztp
    case aG =>
     intro w' hSw;go_simp;rfl
    simp only [Act.put,ZX];refine' ZU (i:=4) rfl ?aH hS ?ztq
    case aH =>
     intro w' hSw;obtain ⟨s1,s2,s3⟩:=hSw;have z1:=s1.q0 rfl;have z2:=s2.q2 rfl;have z3:=s2.q3 rfl;have z4:=s2.q4 rfl;have z5:=s2.q5 rfl;have z6:=s3.q0 rfl;have z7:=s3.q1 rfl;go_simp;rfl
    simp only [Act.put,ZX];refine' ZU (i:=5) rfl ?aI hS ?ztr
    case aI =>
     intro w' hSw;obtain ⟨s1,s2,s3⟩:=hSw;have z1:=s1.q0 rfl;have z2:=s2.q2 rfl;have z3:=s2.q3 rfl;have z4:=s2.q4 rfl;have z5:=s2.q5 rfl;have z6:=s3.q0 rfl;have z7:=s3.q1 rfl;go_simp;rfl
    simp only [Act.put,ZX];refine Yi (i:=6) (by kernel_rfl) rfl ?_;intro K hK;rw [if_pos (by rfl)];go_simp;refine ⟨trivial,?_⟩;refine (CallsIn.inRound l (callsIn_wide.2 xO.out)).mono ?_;rintro e W6 ⟨rfl,hb6⟩;have RZ:Z6 W6 g 2 #[.int .i64 (Z5 ps)]/\Z6 W6 Bx 300 #[.int .i64 (x:Int),.int .i64 (((x:Int)+1) % (ps.length:Int)),.int .i64 (Z4 ps x).1,.int .i64 (Z4 ps x).2,.int .i64 (Z4 ps ((x+1) % ps.length)).1,.int .i64 (Z4 ps ((x+1) % ps.length)).2]/\Z6 W6 (w.heap.size+1) 123 #[.int .i64 p.1,.int .i64 p.2]:=⟨S5.drew.step hb6,X5.drew.step hb6,P5.drew.step hb6⟩;refine hK.out _ _ (fun _=>RZ) ?_;clear hK K
    (try simp only [Act.put,ZX])
    refine' ZU (i:=7) rfl ?aJ RZ ?zts
    case aJ =>
     intro w' hSw;go_simp;rfl
    simp only [Act.put,ZX];refine' ZU (i:=8) rfl ?aK RZ ?ztt
    case aK =>
     intro w' hSw;go_simp;rfl
    simp only [Act.put,ZX];refine WG (by kernel_rfl) ?_ _;have T6:=T5.drew.step hb6;have O6:=O5.drew.step hb6;have N6:=N5.drew.step hb6;have R7:Z8 (Also P (g+1+1+1)) W5 W6:=(Z8.drew _ _).trans (Z8.of_below hb6 oI);have t6:Tp W6 (Also (More P w W4) Bx) t (es++YG pre++[(5,(x:Int),0)]):=Rf.drew.step hb6;have hf6:KeepsFrom W4.heap.size W5 W6:=(KeepsFrom.of_below (ZV (Below.refl _ _))).trans (KeepsFrom.of_below hb6);obtain ⟨s6,x6,p6⟩:=RZ;have HHB:=hide hb6;clear hS hb6 hwr x5 xO Rf oI;generalize VK (Z5 ps) ps p x=sd at *;have Od:=hide (Wx sd (by omega) (by omega) W6.drew);have hor:=Rl o5 (decide (sd<0));generalize hm7:(o5 || decide (sd<0))=o7 at *;gi_wp2_with fail;refine Xy 4 (S:=fun w'=>Z6 w' (g+1) 124 #[.int .u64 (Zy o5)]) Wj ?_;have hS:Z6 W6.drew (g+1) 124 #[.int .u64 (Zy o5)]:=O6;refine' ZU (i:=0) rfl ?aC hS ?ztm
    case aC =>
     intro w' hSw;have z1:=hSw.q0 rfl;go_simp;rfl
    simp only [Act.put,getElem_toArray,getElem_cons_zero,setIfInBounds_toArray,set_cons_zero,set_cons_succ];refine' ZU (i:=1) rfl ?jQ hS ?zvk
    case jQ =>
     intro w' hSw;go_simp;rfl
    simp only [Act.put,ZX];refine Yi (i:=2) (by kernel_rfl) rfl ?_;intro K hK;rw [if_pos (by rfl)];go_simp;refine ⟨trivial,?_⟩;refine (CallsIn.inRound l (callsIn_wide.2 Od.out)).mono ?_;rintro e w' ⟨rfl,rfl⟩;refine hK.out _ _ (fun _=>hS) ?_;clear hK K
    (try simp only [Act.put,ZX])
    refine' ZU (i:=3) rfl ?jT hS ?zvn
    case jT =>
     intro w' hSw;go_simp;rfl
    simp only [Act.put,ZX];have c7:W6.drew.cell? ⟨g+1,0,none⟩=some (.int .u64 (Zy o5)):=hS.q0 rfl;have f7:=hS.frozen 0;refine Yi (i:=4) (by kernel_rfl) rfl ?_;intro K hK;rw [if_pos (by rfl)];go_simp;refine hK.out _ _ (fun h=>absurd rfl h) ?_;clear hK K;refine WG (by kernel_rfl) ?_ _;obtain ⟨W7,Pv⟩:=eE ((W6.setCell ⟨g+1,0,none⟩ (.int .u64 (Zy o7))).drew);rw [<- Pv];have O7:Z6 W7 (g+1) 124 #[.int .u64 (Zy o7)]:=(by rw [Pv];exact (O6.set 0 _).drew);have N7:Z6 W7 (g+1+1) 124 #[.int .u64 (Zy (WM (Z5 ps) ps p pre).2)]:=(by rw [Pv];exact (N6.far (by dsimp only;omega) _).drew);have T7:Z6 W7 w.heap.size 51 #[.pointer (Zu t)]:=(by rw [Pv];exact (T6.far (by dsimp only;omega) _).drew);have P7:Z6 W7 (w.heap.size+1) 123 #[.int .i64 p.1,.int .i64 p.2]:=(by rw [Pv];exact (p6.far (by dsimp only;omega) _).drew);have S7:Z6 W7 g 2 #[.int .i64 (Z5 ps)]:=(by rw [Pv];exact (s6.far (by dsimp only;omega) _).drew);have hk7:Z8 (Also P (g+1+1+1)) W5 W7:=(by rw [Pv];exact R7.trans ((Z8.setCell NZ.out _ _ _).trans (Z8.drew _ _)));have t7:Tp W7 (Also (More P w W4) Bx) t (es++YG pre++[(5,(x:Int),0)]):=(by rw [Pv];exact (t6.set (.inl tL.out) _ _).drew);have hf7:KeepsFrom W4.heap.size W5 W7:=(by rw [Pv];exact hf6.trans (((KeepsOthers.setCell _ _ _).from _).trans (KeepsFrom.of_below (ZV (Below.refl _ _)))));have HW7:=hide Pv;clear Pv hS hor c7 f7 R7 hf6 Od O6 N6 T6 p6 s6 x6 t6;obtain ⟨hz1,hz2⟩:=Vf hsb.1 hsb.2;have gL:=hide (TR (IntKind.u64.wrap sd) hz1.1 hz1.2 W7.drew);rw [hz2] at gL;have hor:=Rl (WM (Z5 ps) ps p pre).2 (decide (sd=0));generalize hm8:((WM (Z5 ps) ps p pre).2 || decide (sd=0))=n8 at *;generalize vP:(WM (Z5 ps) ps p pre).2=n5 at *;clear hz1 hz2;gi_wp2_with fail;refine Xy 5 (S:=fun w'=>Z6 w' (g+1+1) 124 #[.int .u64 (Zy n5)]) Wj ?_;have hS:Z6 W7.drew (g+1+1) 124 #[.int .u64 (Zy n5)]:=N7;refine' ZU (i:=0) rfl ?jP hS ?zvj
    case jP =>
     intro w' hSw;have z1:=hSw.q0 rfl;go_simp;rfl
    simp only [Act.put,getElem_toArray,getElem_cons_zero,setIfInBounds_toArray,set_cons_zero,set_cons_succ];refine' ZU (i:=1) rfl ?jR hS ?zvl
    case jR =>
     intro w' hSw;go_simp;rfl
    simp only [Act.put,ZX];refine' ZU (i:=2) rfl ?jS hS ?zvm
    case jS =>
     intro w' hSw;go_simp;rfl
    simp only [Act.put,ZX];refine Yi (i:=3) (by kernel_rfl) rfl ?_;intro K hK;rw [if_pos (by rfl)];go_simp;refine ⟨trivial,?_⟩;refine (CallsIn.inRound l (callsIn_wide.2 gL.out)).mono ?_;rintro e w' ⟨rfl,rfl⟩;refine hK.out _ _ (fun _=>hS) ?_;clear hK K
    (try simp only [Act.put,ZX])
    refine' ZU (i:=4) rfl ?jU hS ?zvo
    case jU =>
     intro w' hSw;go_simp;rfl
    simp only [Act.put,ZX];have c7:W7.drew.cell? ⟨g+1+1,0,none⟩=some (.int .u64 (Zy n5)):=hS.q0 rfl;have f7:=hS.frozen 0;refine Yi (i:=5) (by kernel_rfl) rfl ?_;intro K hK;rw [if_pos (by rfl)];go_simp;refine hK.out _ _ (fun h=>absurd rfl h) ?_;clear hK K;refine WG (by kernel_rfl) ?_ _;have HF:=hide (mW.out (W7.setCell ⟨g+1+1,0,none⟩ (.int .u64 (Zy n8))).drew (hk7.trans ((Z8.setCell HE2.out _ _ _).trans (Z8.drew _ _))) (hf7.trans (((KeepsOthers.setCell _ _ _).from _).trans (KeepsFrom.of_below (ZV (Below.refl _ _))))) (T7.far (by dsimp only;omega) _).drew (P7.far (by dsimp only;omega) _).drew (S7.far (by dsimp only;omega) _).drew (O7.far (by dsimp only;omega) _).drew (N7.set 0 _).drew (t7.set (.inl HMN.out) _ _).drew);clear t7 hk7 hf7;gi_wp2_with fail;exact HF.out
 case done =>
  rintro D zs W hD rfl ⟨⟨⟨⟨T1,P1⟩,S1⟩,O1,N1⟩,hB1,hT1⟩ hK;have o1:=O1.q0 rfl;have n1:=N1.q0 rfl;have hB2:Z8 P w W:=Mv.out.trans (hB1.mono fun k h=>.inl h);have dK:=hide (Iy (WM (Z5 ps) ps p (List.range (ZA ps.length))).1 (WM (Z5 ps) ps p (List.range (ZA ps.length))).2 W (HW.out.kept hB2 JO.out).1);gi_wp2_with fail;refine ⟨trivial,?_⟩;refine (callsIn_wide.2 dK.out).mono ?_;rintro e w' ⟨rfl,m,rfl⟩;gi_wp2;refine ⟨by simp,.inl ⟨_,_,rfl,run_takeDeferred hK,?_⟩⟩;refine ⟨_,results_tmp rfl _ _ _,rfl,(hB2.trans (Z8.of_below (Zd (Below.refl W.heap.size W) m) fun k hk=>?_)).trans (Z8.putObj _ (fun h=>?_) _),?_⟩
  · exact Nat.lt_of_lt_of_le (Lu.out k (.inl hk)) hB1.size
  · have:=Lu.out D (.inl h);omega
  · have h7:=(hT1.mono (R:=P) fun k h=>.inl h).step (Zd (Below.refl W.heap.size W) m);exact h7.putObj (fun u hu=>Nat.lt_of_lt_of_le (zf.out u hu) hD) hK rfl _
 case stop =>
  rintro D c pre W _ _ h _;exact h.elim
end
end Go.Proofs.YtfljlmleiggmjaaGreatDoor