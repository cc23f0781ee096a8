/- Edges Locate -/
import Derived.LoopIn
import Derived.LoopNIn
import Derived.OwnWalkIn
import Derived.RangeFuncBound
import Derived.RangeFuncCalls
import Derived.RangeFuncLeaves
import Derived.RangeFuncNested
import Derived.Shelf.Abstract
import Derived.Shelf.RegionOpen
import Derived.TacticsInMore
import Derived.Test.YthnenedoblncjaaGreatDoorPkA28
set_option maxRecDepth 1000000
set_option maxHeartbeats 8000000
namespace Go.Proofs.YthnenedoblncjaaGreatDoor
open Go.Proofs.Tryz
open List (getElem_toArray getElem_cons_succ getElem_cons_zero setIfInBounds_toArray set_cons_zero set_cons_succ)
section
open Go.RowKit Go.Shelf
attribute [local go_sem] Oper.semAt_some
def Y6(n:Nat):Nat:=if 3<=n/\n<=64 then n else 0
def rZ(ps:List Pt)(i:Nat):Array Value :=
 #[.agg #[.int .i64 (i:Int),.int .i64 (((i+1) % ps.length:Nat):Int),.int .i64 (Z5 ps i).1,.int .i64 (Z5 ps i).2,.int .i64 (Z5 ps ((i+1) % ps.length)).1,.int .i64 (Z5 ps ((i+1) % ps.length)).2]]
theorem Ck(W:World):W.grownBy W.drew none:=⟨rfl,rfl,rfl,Nat.le_refl _,fun _ _ _=>rfl⟩
theorem Fe(n:Nat)(l Bv:Nat)(ps:List Pt)(hn:¬ (3<=ps.length/\ps.length<=64))(A:Option Addr)(c:Nat)(W:World)(xg:W.cell? ⟨Bv,0,none⟩=some (.slice A ps.length c)):
 CallsIn Fence.wide n prog 304 #[.func (.yield l) #[] #[],.pointer (some ⟨Bv,0,none⟩)] W fun e W'=>(∃ v,e=.returned v)/\W'=W:=by
 refine callsIn_wide.2 ?_;have hc:((ps.length:Nat):Int)<3\/((64:Int)<((ps.length:Nat):Int)/\¬ ((ps.length:Nat):Int)<3):=by omega
 rcases hc with h|⟨h,h2⟩
 · go_enter func304,ntmps304;go_wp2;refine bodyPost_ret (results_none rfl _ _ _) rfl ?_;exact ⟨⟨_,rfl⟩,rfl⟩
 · go_enter func304,ntmps304;go_wp2;refine bodyPost_ret (results_none rfl _ _ _) rfl ?_;exact ⟨⟨_,rfl⟩,rfl⟩
theorem yh (n:Nat) (hn1:1<=n) (l Bv:Nat) (PE:Nat->Prop) (ps:List Pt) (h3:3<=ps.length) (h64:ps.length<=64) (A:Option Addr) (c:Nat) (J Jx:List Nat->World->Prop) (W:World)
 (hJ:AbidesFrom W.heap.size J) (MZ:∀ k,PE k->k<W.heap.size) (qE:PE Bv)
 (hY:∀ pre x W1,J pre W1->pre.length<Y6 ps.length->YieldAt Fence.wide (n - 1) prog l (rZ ps x) W1 fun e W' =>
   (e=.returned (.bool true)/\J (pre++[x]) W'/\Z8 PE W1 W')\/(e=.returned (.bool false)/\Jx (pre++[x]) W'))
 (xg:Z6 W Bv 36 #[.slice A ps.length c]) (hs:UU W PE A (Zg ps)) (h0:J [] W) :
 CallsIn Fence.wide n prog 304 #[.func (.yield l) #[] #[],.pointer (some ⟨Bv,0,none⟩)] W fun e W'=>(∃ v,e=.returned v) /\
  ((∃ ys,ys=List.range (Y6 ps.length)/\J ys W')\/(∃ pre,pre <+: List.range (Y6 ps.length)/\Jx pre W')):=by
 have hE:Y6 ps.length=ps.length:=by unfold Y6;rw [if_pos ⟨h3,h64⟩]
 rw [hE] at hY ⊢;have g3:¬ ((ps.length:Nat):Int)<3:=by omega
 have g64:¬ (64:Int)<((ps.length:Nat):Int):=by omega
 have cv:=xg.q0 rfl;have HY:=hide hY;have HJ:=hide hJ;clear hY hJ;refine callsIn_of_wp func304 rfl trivial ?_ rfl;simp only [ntmps304,List.size_toArray,List.length_cons,List.length_nil,Nat.reduceAdd,Nat.reduceSub,Array.replicate_succ,Array.replicate_zero,List.push_toArray,List.append_toArray,List.nil_append,List.cons_append];gi_wp2
 gi_loopw [16] (fun i wr=>∃ k:Nat,k<=ps.length/\i=.int .i64 k/\J (List.range k) wr/\Z8 PE W wr)
  (fun i _=>ps.length - (intOf i).toNat)
 case atStart=>exact ⟨0,Nat.zero_le _,rfl,h0,Z8.refl _ _⟩
 case round =>
  obtain ⟨k,hk,rfl,hJs,hkp⟩:=hrel
  by_cases hlt:k<ps.length
  · have cvr:wr.cell? ⟨Bv,0,none⟩=some (.slice A ps.length c):=(xg.kept hkp qE).q0 rfl;have hsr:=(hs.kept hkp).sl MZ;have Sv:((k:Nat):Int)<((ps.length:Nat):Int):=(by omega);obtain ⟨nx,hnx⟩:=eE ((k+1) % ps.length);have hnl:nx<ps.length:=(by rw [hnx];exact Nat.mod_lt _ (by omega));have zmu:((nx:Nat):Int)<((ps.length:Nat):Int):=(by omega);have hm:((k:Int)+1) % ((ps.length:Nat):Int)=(nx:Int):=(by rw [hnx];rfl);obtain ⟨b,off,rfl,hb⟩:=VL hsr (by omega);obtain ⟨a0,a1⟩:=X8 hsr hlt;obtain ⟨b0,b1⟩:=X8 hsr hnl;have hJd:J (List.range k) wr.drew:=HJ.out _ _ _ none hJs (Ck wr) (fun r e=>by cases e);obtain ⟨fn,tmps,assign,body,hy,hR⟩:=HY.out (List.range k) k wr.drew hJd (by simpa using hlt);unfold rZ at hy;rw [<- hnx] at hy
    have hR2:=hide (hR.mono (R':=fun e W'=>∃ r,e=.returned (.bool r)/\(r=true->J (List.range (k+1)) W'/\Z8 PE wr W')/\(r=false->Jx (List.range (k+1)) W')) (by
     rintro e W' (⟨rfl,h1,h2⟩|⟨rfl,h1⟩)
     · exact ⟨true,rfl,fun _=>⟨by rw [List.range_succ];exact h1,(Z8.drew PE wr).trans h2⟩,fun h=>by cases h⟩
     · exact ⟨false,rfl,(fun h=>by cases h),fun _=>by rw [List.range_succ];exact h1⟩))
    generalize hpk:Z5 ps k=pk at *;generalize hpn:Z5 ps nx=pn at *;obtain ⟨x1,y1⟩:=pk;obtain ⟨x2,y2⟩:=pn;have zsv:(nx:Int)*2=((nx*2:Nat):Int):=(by omega);clear hR hJd hJs hpk hpn hsr hnx zsv;dsimp only at *;have V5:prog.follows .mixedOrders=true:=(by kernel_rfl);have hpre:List.range (k+1) <+: List.range ps.length:=by
     have e:List.range (k+1)=(List.range ps.length).take (k+1):=(by rw [List.take_range,Nat.min_eq_left (by omega)]);rw [e];exact List.take_prefix _ _
    gi_wp2;rw [hm]
    gi_region_with_o (refine hR2.out.mono ?_;rintro e W3 ⟨r,rfl,hr1,hr2⟩)
    all_goals
     have HR1:=hide hr1;have HR2:=hide hr2;clear hr1 hr2 hy hR2;cases r with
     | false =>
       gi_wp2;refine bodyPost_ret (results_none rfl _ _ _) rfl ?_;exact ⟨⟨_,rfl⟩,.inr ⟨List.range (k+1),hpre,by simpa using HR2.out⟩⟩
     | true =>
       gi_wp2;go_roundw
       case rel=>exact ⟨k+1,by omega,by go_num,(HR1.out rfl).1,hkp.trans (HR1.out rfl).2⟩
       case measure=>simp [intOf];omega
  · obtain rfl:k=ps.length:=(by omega);gi_wp2;go_end0;exact ⟨⟨_,rfl⟩,.inl ⟨_,rfl,hJs⟩⟩
theorem NV(n:Nat)(hn1:1<=n)(Bv:Nat)(PE:Nat->Prop)(ps:List Pt)(A:Option Addr)(c:Nat)(w:World)(MZ:∀ k,PE k->k<w.heap.size)(qE:PE Bv)(xg:Z6 w Bv 36 #[.slice A ps.length c])(hs:UU w PE A (Zg ps)):
 SeqStopsK Fence.wide n prog 304 #[.pointer (some ⟨Bv,0,none⟩)] (rZ ps) (Z8 PE) (fun ys=>ys=List.range (Y6 ps.length)) (fun pre=>pre <+: List.range (Y6 ps.length)) (Y6 ps.length) w:=by
 intro l J Jx W hW hJ _ hY h0;have hk:Z8 PE w W:=Z8.of_below hW MZ;have hB:Z6 W Bv 36 #[.slice A ps.length c]:=xg.step hW
 by_cases h:3<=ps.length/\ps.length<=64
 · exact yh n hn1 l Bv PE ps h.1 h.2 A c J Jx W hJ (fun k hp=>Nat.lt_of_lt_of_le (MZ k hp) hW.size) qE hY hB (hs.kept hk) h0
 · refine (Fe n l Bv ps h A c W (hB.q0 rfl)).mono ?_;rintro e W' ⟨hv,rfl⟩;exact ⟨hv,.inl ⟨[],by unfold Y6;rw [if_neg h];rfl,h0⟩⟩
theorem JE(v:Value)(A:Option Addr)(n c:Nat)(hv:v=.slice A n c)(w:World):
 Calls prog 258 #[v] w fun e w'=>e=.returned (.func (.func 304) #[] #[.pointer (some ⟨w.heap.size,0,none⟩)])/\w'=w.alloc (.cells #[.slice A n c] 36):=by
 subst hv;go_enter func258,ntmps258;go_wp2;go_ret;exact ⟨rfl,rfl⟩
end
section
open Go.RowKit Go.Shelf
attribute [local go_sem] Oper.semAt_some
theorem XH{β:Type}(B:Nat)(t:TypeId)(f:β->Array Value):Own (fun s W=>Z6 W B t (f s)):=fun s X Y row hs hg hrow =>
 (hg.block B hs.lt (fun e'=>by obtain ⟨o,ho,hc⟩:=hrow B e'.symm;rw [show X.heap[B]?=_ from hs] at ho;cases ho;cases hc)).trans hs
theorem KeepsFrom.of_below{B:Nat}{W W':World}(h:Below W.heap.size W W'):KeepsFrom B W W' :=
 ⟨h.size,fun k _ _ hk _=>(h.block k (Array.getElem?_eq_some_iff.1 hk).1).trans hk⟩
def Wn(s:Int)(ps:List Pt)(p:Pt)(i:Nat):Int:=s*(ZM (Z5 ps i) (Z5 ps ((i+1) % ps.length)) p).sign
def Xh(s:Int)(ps:List Pt)(p:Pt)(pre:List Nat):Bool × Bool :=
 pre.foldl (fun st i=>((bif decide (i=0) then false else st.1) || decide (Wn s ps p i<0),st.2 || decide (Wn s ps p i=0))) (true,false)
theorem JX(s:Int)(ps:List Pt)(p:Pt)(pre:List Nat)(i:Nat):Xh s ps p (pre++[i]) =
 ((bif decide (i=0) then false else (Xh s ps p pre).1) || decide (Wn s ps p i<0),(Xh s ps p pre).2 || decide (Wn s ps p i=0)):=by
 simp [Xh]
def UL(ps:List Pt)(p:Pt):Int:=KU (Xh (Z4 ps) ps p (List.range (Y6 ps.length))).1 (Xh (Z4 ps) ps p (List.range (Y6 ps.length))).2
theorem SE(a b:Bool):bits BinOp.or IntKind.u64 (ZE a) (ZE b)=ZE (a || b):=by cases a <;> cases b <;> decide
theorem TM(ps:List Pt):(Z4 ps).sign=Z4 ps:=by
 unfold Z4;split
 · exact Int.sign_sign
 · rfl
theorem MF(ps:List Pt)(p:Pt)(i:Nat):IntKind.i64.wrap (Z4 ps*(ZM (Z5 ps i) (Z5 ps ((i+1) % ps.length)) p).sign)=Wn (Z4 ps) ps p i:=by
 have h:=UG (Z4 ps) (ZM (Z5 ps i) (Z5 ps ((i+1) % ps.length)) p);rw [TM] at h;exact h
theorem ME(ps:List Pt)(p:Pt)(i:Nat):-1<=Wn (Z4 ps) ps p i/\Wn (Z4 ps) ps p i<=1:=by
 unfold Wn;rw [<- TM];rcases Xq (Z4 ps) with h|h|h <;> rcases Xq (ZM (Z5 ps i) (Z5 ps ((i+1) % ps.length)) p) with h'|h'|h' <;> rw [h,h'] <;> decide
theorem VE{x:Int}(h0:-1<=x)(h1:x<=1):(0<=IntKind.u64.wrap x/\IntKind.u64.wrap x<18446744073709551616)/\decide (IntKind.u64.wrap x=0)=decide (x=0):=by
 have h:x=-1\/x=0\/x=1:=by omega
 rcases h with rfl|rfl|rfl <;> decide
def Also(P:Nat->Prop)(b k:Nat):Prop:=P k\/k=b
theorem EN{F:Nat}{a b d:Value}{k:IntKind}{x y:Int}{w:World}{R:Ending->World->Prop}(h:Calls prog F #[a,b,.int k x,d] w R)(e:y=x):Calls prog F #[a,b,.int k y,d] w R:=by rw [e];exact h
def Xf(pre:List Nat):List Ev:=pre.map fun (i:Nat)=>(5,(i:Int),0)
theorem MW.kept{w w':World}{P:Nat->Prop}(h:MW w)(hk:Z8 P w w')(h0:P 8):MW w':=⟨⟨(hk.cell h0 _).trans h.1.1,(hk.cell h0 _).trans h.1.2⟩,Nat.lt_of_lt_of_le h.2 hk.size⟩
theorem L6(P:Nat->Prop)(t:Option (Nat × Nat))(es:List Ev)(ps:List Pt)(hps:Ub ps)(hn:ps.length<=10000)(A:Option Addr)(c:Nat)(p:Pt)(hp:PJ p)(w:World)(hP:∀ k,P k->k<w.heap.size)(hg0:P 8)(hs:UU w P A (Zg ps))(hw:MW w)(ht:Tp w P t es)(hl:es.length<=900000):
 Calls prog 194 #[.pointer (Zz t),.slice A ps.length c,.agg #[.int .i64 p.1,.int .i64 p.2]] w fun e w'=>e=.returned (.int .i64 (UL ps p))/\Z8 P w w'/\Tp w' P t (es++Xf (List.range (Y6 ps.length))):=by
 obtain ⟨w0,hw0⟩:=eE ((w.alloc (.cells #[.pointer (Zz t)] 193)).alloc (.cells #[.int .i64 p.1,.int .i64 p.2] 41));have hb0:=bF hw0;have T0:Z6 w0 w.heap.size 193 #[.pointer (Zz t)]:=by rw [hw0];exact (Z6.new _ _ _).alloc _
 have P0:Z6 w0 (w.heap.size+1) 41 #[.int .i64 p.1,.int .i64 p.2]:=by rw [hw0];exact Z6.new2 _ _ _ _
 have EA:=hide (Tt ps hps hn A c w0 (((hs.sl hP).below hb0).more hb0.size) (hw.step hb0));refine (callsIn_wide (n:=6)).1 ?_;refine callsIn_of_wp_marks func194 rfl trivial ?_ rfl;simp only [ntmps194,List.size_toArray,List.length_cons,List.length_nil,Nat.reduceAdd,Nat.reduceSub,Array.replicate_succ,Array.replicate_zero,List.push_toArray,List.append_toArray,List.nil_append,List.cons_append];gi_wp2_with fail;rw [<- hw0];have HW0:=hide hw0;clear hw0;refine ⟨trivial,?_⟩;refine (callsIn_wide.2 EA.out).mono ?_;rintro e w1 ⟨rfl,hb1⟩;obtain ⟨g,hg⟩:=eE w1.heap.size;obtain ⟨w2,hw2⟩:=eE (w1.alloc (.cells #[.int .i64 (Z4 ps)] 2));gi_wp2_with fail;rw [<- hw2];have HO1:=hide (QS 1 (by omega) (by omega) w2);refine ⟨trivial,?_⟩;refine (callsIn_wide.2 HO1.out).mono ?_;rintro e w2' ⟨rfl,rfl⟩;gi_wp2_with fail;refine ⟨trivial,?_⟩;refine (callsIn_wide.2 (JE _ A ps.length c rfl _)).mono ?_;rintro e w3 ⟨rfl,rfl⟩;have hs2:(((w1.alloc (.cells #[.int .i64 (Z4 ps)] 2)).alloc (.cells #[.int .u64 (ZE true)] 44)).alloc (.cells #[.int .u64 0] 44)).heap.size=g+1+1+1:=by simp [hg]
 rw [hs2];have G0:Z6 ((((w1.alloc (.cells #[.int .i64 (Z4 ps)] 2)).alloc (.cells #[.int .u64 (ZE true)] 44)).alloc (.cells #[.int .u64 0] 44)).alloc (.cells #[.slice A ps.length c] 36)) g 2 #[.int .i64 (Z4 ps)]:=by
  rw [hg];exact (((Z6.new _ _ _).alloc _).alloc _).alloc _
 have G1:Z6 ((((w1.alloc (.cells #[.int .i64 (Z4 ps)] 2)).alloc (.cells #[.int .u64 (ZE true)] 44)).alloc (.cells #[.int .u64 0] 44)).alloc (.cells #[.slice A ps.length c] 36)) (g+1) 44 #[.int .u64 (ZE true)]:=by
  rw [hg];exact ((Z6.new2 _ _ _ _).alloc _).alloc _
 have G2:Z6 ((((w1.alloc (.cells #[.int .i64 (Z4 ps)] 2)).alloc (.cells #[.int .u64 (ZE true)] 44)).alloc (.cells #[.int .u64 0] 44)).alloc (.cells #[.slice A ps.length c] 36)) (g+1+1) 44 #[.int .u64 0]:=by
  have h2:=(Z6.new ((w1.alloc (.cells #[.int .i64 (Z4 ps)] 2)).alloc (.cells #[.int .u64 (ZE true)] 44)) 44 #[.int .u64 0]).alloc (.cells #[.slice A ps.length c] 36);simp only [World.size_alloc,<- hg] at h2;exact h2
 have G3:Z6 ((((w1.alloc (.cells #[.int .i64 (Z4 ps)] 2)).alloc (.cells #[.int .u64 (ZE true)] 44)).alloc (.cells #[.int .u64 0] 44)).alloc (.cells #[.slice A ps.length c] 36)) (g+1+1+1) 36 #[.slice A ps.length c]:=by
  have h2:=Z6.new (((w1.alloc (.cells #[.int .i64 (Z4 ps)] 2)).alloc (.cells #[.int .u64 (ZE true)] 44)).alloc (.cells #[.int .u64 0] 44)) 36 #[.slice A ps.length c];rw [hs2] at h2;exact h2
 have hb4:Below w1.heap.size w1 ((((w1.alloc (.cells #[.int .i64 (Z4 ps)] 2)).alloc (.cells #[.int .u64 (ZE true)] 44)).alloc (.cells #[.int .u64 0] 44)).alloc (.cells #[.slice A ps.length c] 36)):=Z7 (Z7 (Z7 (bA) _) _) _;have hs4:((((w1.alloc (.cells #[.int .i64 (Z4 ps)] 2)).alloc (.cells #[.int .u64 (ZE true)] 44)).alloc (.cells #[.int .u64 0] 44)).alloc (.cells #[.slice A ps.length c] 36)).heap.size=g+4:=by simp [hg]
 obtain ⟨W4,sS⟩:∃ W4,((((w1.alloc (.cells #[.int .i64 (Z4 ps)] 2)).alloc (.cells #[.int .u64 (ZE true)] 44)).alloc (.cells #[.int .u64 0] 44)).alloc (.cells #[.slice A ps.length c] 36))=W4:=⟨_,rfl⟩;rw [sS] at G0 G1 G2 G3 hb4 hs4;gi_wp2_with fail;rw [<- hg];have hB4:Below w.heap.size w W4:=Z9 (Z9 hb0 hb1) hb4;have hgw:w.heap.size+2<=g:=by
  have h1:=hb1.size;have h2:w0.heap.size=w.heap.size+2:=by rw [HW0.out];simp
  omega
 have T4:=(T0.step hb1).step hb4;have P4:=(P0.step hb1).step hb4;have Jv:=hide hps;have HP:=hide hp;have HW:=hide hw;have HSL:=hide (hs.kept (Z8.of_below hB4 hP))
 have MZ:∀ k,Also P (g+1+1+1) k->k<W4.heap.size:=fun k hk=>by
  rcases hk with hk|hk
  · exact Nat.lt_of_lt_of_le (hP k hk) hB4.size
  · omega
 have KF:=ht.more hB4;have hmb:∀ u,t=some u->u.2<W4.heap.size:=fun u hu=>Nat.lt_of_lt_of_le (ht.iE u hu) hB4.size;have hE1:¬ Also P (g+1+1+1) (g+1):=by
  rintro (h|h)
  · have:=hP _ h;omega
  · omega
 have hE2:¬ Also P (g+1+1+1) (g+1+1):=by
  rintro (h|h)
  · have:=hP _ h;omega
  · omega
 have hM:∀ k,w.heap.size<=k->k<g+4->More P w W4 k:=fun k h1 h2=>.inr ⟨h1,by omega⟩;have qw:=hide (hM w.heap.size (by omega) (by omega));have qp:=hide (hM (w.heap.size+1) (by omega) (by omega));have jF:=hide (hM g (by omega) (by omega));have wX:=hide (hM (g+1) (by omega) (by omega));have HMN:=hide (hM (g+1+1) (by omega) (by omega));have HMV:=hide (hM (g+1+1+1) (by omega) (by omega));have hK0:Z8 P w W4:=Z8.of_below hB4 hP;have Cn:∀ k,Also P (g+1+1+1) k->k<W4.heap.size/\k<W4.heap.size:=fun k hk=>⟨MZ k hk,MZ k hk⟩;have hPM:∀ k,More P w W4 k->k<W4.heap.size:=Yw hP hB4;have qh:=hide hE1;have HE2:=hide hE2;have MP:=hide MZ;have Bo:=hide hmb;have HT4:=hide KF;have NI:=hide hK0;have kZ:=hide Cn;have aJ:=hide hPM;have K6:=hide hg0;clear hE1 hE2 MZ hmb KF hM hK0 Cn hPM hg0 ht hP;clear sS hg hs2 HO1 EA T0 P0 hps hp hw hs hb0 hb1 hb4 HW0 hB4
 refine wpIn_rangeFunc_ownH rfl (by omega) (gf:=304) (lb:=#[.pointer (some ⟨g+1+1+1,0,none⟩)]) rfl trivial (enters_of func304 (by kernel_rfl) rfl)
  (NV 5 (by omega) (g+1+1+1) (Also P (g+1+1+1)) ps A c W4 MP.out (.inr rfl) G3 (HSL.out.mono fun k h=>.inl h)) Z8.trans (fun W l o o' hl _ _ _=>Z8.putObj o' (fun h=>by have:=MP.out _ h;omega) W) (Below.refl _ _) (fun _=>rfl)
  (fun pre W=>(((Z6 W w.heap.size 193 #[.pointer (Zz t)]/\Z6 W (w.heap.size+1) 41 #[.int .i64 p.1,.int .i64 p.2])/\Z6 W g 2 #[.int .i64 (Z4 ps)])/\(Z6 W (g+1) 44 #[.int .u64 (ZE (Xh (Z4 ps) ps p pre).1)]/\Z6 W (g+1+1) 44 #[.int .u64 (ZE (Xh (Z4 ps) ps p pre).2)]))/\(Z8 (Also P (g+1+1+1)) W4 W/\Tp W (More P w W4) t (es++Xf pre)))
  (fun _ _ _=>False)
  (OwnFrom.and (OwnFrom.and (OwnFrom.and (OwnFrom.and (Own.from (XH _ _ _) _) (Own.from (XH _ _ _) _)) (Own.from (XH _ _ _) _)) (OwnFrom.and (Own.from (XH _ _ _) _) (Own.from (XH _ _ _) _))) (OwnFrom.and (UC kZ.out) (WE _ (More P w W4) t (fun pre=>es++Xf pre) Bo.out)))
  (fun _ _ _ _ _ hs _ _=>hs)
  ⟨⟨⟨⟨T4,P4⟩,G0⟩,G1,G2⟩,Z8.refl _ _,by simpa [Xf] using HT4.out⟩
  (fun x a' W=>∃ Bx es',g+1+1<Bx/\Tp W (Also (More P w W4) Bx) t es'/\Z6 W Bx 301 #[.int .i64 (x:Int),.int .i64 (((x:Int)+1) % (ps.length:Int)),.int .i64 (Z5 ps x).1,.int .i64 (Z5 ps x).2,.int .i64 (Z5 ps ((x+1) % ps.length)).1,.int .i64 (Z5 ps ((x+1) % ps.length)).2]/\a'={ tmps:=#[.pointer (Zz t),.slice A ps.length c,.agg #[.int .i64 p.1,.int .i64 p.2],.pointer (some ⟨w.heap.size,0,none⟩),undef,.pointer (some ⟨w.heap.size+1,0,none⟩),.int .i64 0,.pointer (some ⟨g,0,none⟩),.pointer (some ⟨g+1,0,none⟩),.pointer (some ⟨g+1+1,0,none⟩),.pointer (some ⟨Bx,0,none⟩),undef,.slice A ps.length c,.int .i64 (Z4 ps),.int .u64 (ZE true),.slice A ps.length c,.func (.func 304) #[] #[.pointer (some ⟨g+1+1+1,0,none⟩)],.agg #[.int .i64 (x:Int),.int .i64 (((x:Int)+1) % (ps.length:Int)),.int .i64 (Z5 ps x).1,.int .i64 (Z5 ps x).2,.int .i64 (Z5 ps ((x+1) % ps.length)).1,.int .i64 (Z5 ps ((x+1) % ps.length)).2],undef,undef,undef,undef,undef,undef,undef,undef,undef,undef,undef,undef,undef,undef,undef,undef,undef,undef,undef,undef,undef,undef,undef,undef,undef,undef,undef],defers:=[] })
  (fun x a' _ X Y row hs hg hr=>by obtain ⟨Bx,es',h1,hT,h2,h3⟩:=hs;exact ⟨Bx,es',h1,WE _ _ t (fun _:Unit=>es') Bo.out () X Y row hT hg hr,XH Bx 301 (fun (_:Unit)=>#[.int .i64 (x:Int),.int .i64 (((x:Int)+1) % (ps.length:Int)),.int .i64 (Z5 ps x).1,.int .i64 (Z5 ps x).2,.int .i64 (Z5 ps ((x+1) % ps.length)).1,.int .i64 (Z5 ps ((x+1) % ps.length)).2]) () X Y row h2 hg (fun r e=>(hr r e).2),h3⟩)
  ?assign ?body ?done ?stop
 case assign =>
  rintro l pre x W K ⟨⟨⟨⟨T1,P1⟩,S1⟩,O1,N1⟩,hB1,hT1⟩ hK;have hlt:g+1+1<W.heap.size:=N1.lt;unfold rZ;gi_wp2;have jS:∀ k,Also P (g+1+1+1) k->k<W.heap.size:=fun k hk=>Nat.lt_of_lt_of_le (MP.out k hk) hB1.size;refine hK _ _ ((KeepsOthers.alloc _ _).from _) (Z8.of_below (bA) jS) ⟨⟨⟨⟨T1.alloc _,P1.alloc _⟩,S1.alloc _⟩,O1.alloc _,N1.alloc _⟩,hB1.trans (Z8.of_below (bA) jS),hT1.step (bA)⟩ ⟨W.heap.size,es++Xf pre,hlt,?_,Z6.new _ _ _,rfl⟩;refine (hT1.add (R:=Also (More P w W4) W.heap.size) fun k hk=>?_).step (bA);rcases hk with hk|hk
  · exact .inl hk
  · exact .inr (by omega)
 case body =>
  rintro l pre x a' W hl _ ⟨⟨⟨⟨T1,P1⟩,S1⟩,O1,N1⟩,hB1,hT1⟩ ⟨Bx,es',hBx,hTx,bX,rfl⟩ hpl;have hszW:W4.heap.size<=W.heap.size:=hB1.size;have yF:=hT1.with hTx
  clear hT1 hTx;have V5:prog.follows .mixedOrders=true:=by kernel_rfl
  have t0:=T1.q0 rfl;have x0:=bX.q0 rfl;have o0:=O1.frozen 0;have hgs:g+1+1<W.heap.size:=N1.lt;obtain ⟨o5,ho5⟩:=eE ((bif decide (x=0) then false else (Xh (Z4 ps) ps p pre).1));have HIN:∃ Wi,(if x=0 then Wi=W.setCell ⟨g+1,0,none⟩ (.int .u64 0) else Wi=W)/\(Z6 Wi w.heap.size 193 #[.pointer (Zz t)]/\Z6 Wi (w.heap.size+1) 41 #[.int .i64 p.1,.int .i64 p.2])/\Z6 Wi g 2 #[.int .i64 (Z4 ps)]/\Z6 Wi (g+1) 44 #[.int .u64 (ZE o5)]/\Z6 Wi (g+1+1) 44 #[.int .u64 (ZE (Xh (Z4 ps) ps p pre).2)]/\Z6 Wi Bx 301 #[.int .i64 (x:Int),.int .i64 (((x:Int)+1) % (ps.length:Int)),.int .i64 (Z5 ps x).1,.int .i64 (Z5 ps x).2,.int .i64 (Z5 ps ((x+1) % ps.length)).1,.int .i64 (Z5 ps ((x+1) % ps.length)).2]/\Z8 (Also P (g+1+1+1)) W Wi/\KeepsFrom W4.heap.size W Wi/\Tp Wi (Also (More P w W4) Bx) t (es++Xf pre):=by
   by_cases hx:x=0
   · refine ⟨W.setCell ⟨g+1,0,none⟩ (.int .u64 0),by rw [if_pos hx],⟨T1.far (by dsimp only;omega) _,P1.far (by dsimp only;omega) _⟩,S1.far (by dsimp only;omega) _,?_,N1.far (by dsimp only;omega) _,bX.far (by dsimp only;omega) _,Z8.setCell qh.out _ _ _,(KeepsOthers.setCell _ _ _).from _,yF.set (.inl wX.out) _ _⟩;have h:=O1.set 0 (.int .u64 0);rw [ho5,decide_eq_true hx];exact h
   · refine ⟨W,by rw [if_neg hx],⟨T1,P1⟩,S1,?_,N1,bX,Z8.refl _ _,KeepsFrom.refl _ _,yF⟩;rw [ho5,decide_eq_false hx];exact O1
  obtain ⟨Wi,sU,⟨Ti,Pi⟩,Si,Oi,Ni,Xi,hKi,hFi,hTi⟩:=HIN;have hBi:Z8 (Also P (g+1+1+1)) W4 Wi:=hB1.trans hKi
  have hsub:∀ k,Also P (g+1+1+1) k->Also (More P w W4) Bx k:=fun k hk=>by
   rcases hk with hk|hk
   · exact .inl (.inl hk)
   · subst hk;exact .inl HMV.out
  have wZ:∀ k,Also (More P w W4) Bx k->k<Wi.heap.size:=fun k hk=>by
   rcases hk with hk|hk
   · have:=aJ.out k hk;have:=hBi.size;omega
   · subst hk;exact Xi.lt
  have hpx:(es++Xf pre).length<=1000000:=by
   have:Y6 ps.length<=64:=(by unfold Y6;split <;> omega);simp [Xf];omega
  have zrq:=Vy (Also (More P w W4) Bx) t (es++Xf pre) 5 (x:Int) 0 Wi wZ hTi hpx (by unfold QB;omega);have Td:=hide (fun (xi:Int) (he:xi=(x:Int))=>EN zrq he);clear zrq;have Ua:=hide (fun W5 (hM:MW W5)=>U9 (Z5 ps x) (Z5 ps ((x+1) % ps.length)) p (Jv.out.at_ _) (Jv.out.at_ _) HP.out W5 hM);have hwr:=MF ps p x;have hsb:=ME ps p x;have Bw:=hide (JX (Z4 ps) ps p pre x);rw [<- ho5] at Bw;have ti:=Ti.q0 rfl;have xi:=Xi.q0 rfl
  have G9:Hid (∀ W8,Z8 (Also P (g+1+1+1)) Wi W8->KeepsFrom W4.heap.size Wi W8->Z6 W8 w.heap.size 193 #[.pointer (Zz t)]->Z6 W8 (w.heap.size+1) 41 #[.int .i64 p.1,.int .i64 p.2]->Z6 W8 g 2 #[.int .i64 (Z4 ps)]->Z6 W8 (g+1) 44 #[.int .u64 (ZE (o5 || decide (Wn (Z4 ps) ps p x<0)))]->Z6 W8 (g+1+1) 44 #[.int .u64 (ZE ((Xh (Z4 ps) ps p pre).2 || decide (Wn (Z4 ps) ps p x=0)))]->Tp W8 (Also (More P w W4) Bx) t (es++Xf pre++[(5,(x:Int),0)]) ->
   KeepsFrom W4.heap.size W W8/\Z8 (Also P (g+1+1+1)) W W8/\(((Z6 W8 w.heap.size 193 #[.pointer (Zz t)]/\Z6 W8 (w.heap.size+1) 41 #[.int .i64 p.1,.int .i64 p.2])/\Z6 W8 g 2 #[.int .i64 (Z4 ps)])/\(Z6 W8 (g+1) 44 #[.int .u64 (ZE (Xh (Z4 ps) ps p (pre++[x])).1)]/\Z6 W8 (g+1+1) 44 #[.int .u64 (ZE (Xh (Z4 ps) ps p (pre++[x])).2)]))/\(Z8 (Also P (g+1+1+1)) W4 W8/\Tp W8 (More P w W4) t (es++Xf (pre++[x])))) :=
   hide fun W8 hk hf h1 h2 h3 h4 h5 h6=>⟨hFi.trans hf,hKi.trans hk,⟨⟨⟨h1,h2⟩,h3⟩,by rw [Bw.out];exact h4,by rw [Bw.out];exact h5⟩,hBi.trans hk,by
    have h7:=h6.mono (R:=More P w W4) (fun k h=>.inl h);rw [List.append_assoc] at h7;rw [show Xf (pre++[x])=Xf pre++[(5,(x:Int),0)] by simp [Xf]]
    exact h7⟩
  have zof:Hid (x=0->Wi=W.setCell ⟨g+1,0,none⟩ (.int .u64 0))/\Hid (x≠0->Wi=W):=⟨hide fun h=>by rw [if_pos h] at sU;exact sU,hide fun h=>by rw [if_neg h] at sU;exact sU⟩;obtain ⟨Ru,OD⟩:=zof;have Nk:=hide hsub;have jy:=hide wZ;have xE:=hide hBi;clear sU hKi hFi Bw ho5 hsub wZ hBi hB1 yF hTi hpx hpl hszW;have hx:x=0\/x≠0:=by omega
  have hgw1:w.heap.size≠g+1:=by omega
  have zmc:w.heap.size+1≠g+1:=by omega
  have zmd:Bx≠g+1:=by omega
  rcases hx with hx|hx
  · have hxi:(x:Int)=0:=(by omega);have sU:=Ru.out hx;have o1:=O1.q0 rfl;clear hx;clear Ru OD T1 P1 S1 O1 N1 bX;gi_wp2_with fail;refine ⟨trivial,?_⟩;rw [<- sU];have HWi:=hide sU;clear sU;refine (CallsIn.inRound l (callsIn_wide.2 (Td.out 0 hxi.symm))).mono ?_;rintro e W5 ⟨rfl,hkn,hmn,Sz⟩;have wZ:=jy.out;have T5:=Ti.kept hkn (.inl qw.out);have P5:=Pi.kept hkn (.inl qp.out);have S5:=Si.kept hkn (.inl jF.out);have O5:=Oi.kept hkn (.inl wX.out);have N5:=Ni.kept hkn (.inl HMN.out);have X5:=Xi.kept hkn (.inr rfl);have hki:Z8 (Also P (g+1+1+1)) Wi W5:=hkn.mono Nk.out;have hfi:KeepsFrom W4.heap.size Wi W5:=hmn.from Bo.out;have qU:=hide (fun W8 (hk:Z8 (Also P (g+1+1+1)) W5 W8) (hf:KeepsFrom W4.heap.size W5 W8)=>G9.out W8 (hki.trans hk) (hfi.trans hf));have hb4:=xE.out.trans hki;have sO:∀ k,Also P (g+1+1+1) k->k<W5.drew.heap.size:=fun k hk=>Nat.lt_of_lt_of_le (MP.out k hk) hb4.size;have zY:=hide (Ua.out W5.drew ((HW.out.kept (NI.out.trans (hb4.mono fun k h=>.inl h)) K6.out).step (ZU (Below.refl _ _))));have x5:=X5.q0 rfl;clear hkn hmn hki hfi hb4 wZ Ti Pi Si Oi Ni Xi ti xi G9 xE Ua Td Nk jy;gi_wp2_with fail;clear hxi;refine Xy 1000 (S:=fun w'=>Z6 w' g 2 #[.int .i64 (Z4 ps)]/\Z6 w' Bx 301 #[.int .i64 (x:Int),.int .i64 (((x:Int)+1) % (ps.length:Int)),.int .i64 (Z5 ps x).1,.int .i64 (Z5 ps x).2,.int .i64 (Z5 ps ((x+1) % ps.length)).1,.int .i64 (Z5 ps ((x+1) % ps.length)).2]/\Z6 w' (w.heap.size+1) 41 #[.int .i64 p.1,.int .i64 p.2]) V5 ?_;have hS:Z6 W5.drew g 2 #[.int .i64 (Z4 ps)]/\Z6 W5.drew Bx 301 #[.int .i64 (x:Int),.int .i64 (((x:Int)+1) % (ps.length:Int)),.int .i64 (Z5 ps x).1,.int .i64 (Z5 ps x).2,.int .i64 (Z5 ps ((x+1) % ps.length)).1,.int .i64 (Z5 ps ((x+1) % ps.length)).2]/\Z6 W5.drew (w.heap.size+1) 41 #[.int .i64 p.1,.int .i64 p.2]:=⟨S5,X5,P5⟩;refine' ZV (i:=0) rfl ?P8 hS ?M8
    case P8 =>
     intro w' hSw;obtain ⟨s1,s2,s3⟩:=hSw;have z1:=s1.q0 rfl;have z2:=s2.q2 rfl;have z3:=s2.q3 rfl;have z4:=s2.q4 rfl;have z5:=s2.q5 rfl;have z6:=s3.q0 rfl;have z7:=s3.q1 rfl;go_simp;rfl
    simp only [Act.put,getElem_toArray,getElem_cons_zero,setIfInBounds_toArray,set_cons_zero,set_cons_succ];refine' ZV (i:=1) rfl ?Qa hS ?M9
    case Qa =>
     intro w' hSw;go_simp;rfl
    simp only [Act.put,ZW];refine' ZV (i:=2) rfl ?Qb hS ?Na
    case Qb =>
     intro w' hSw;obtain ⟨s1,s2,s3⟩:=hSw;have z1:=s1.q0 rfl;have z2:=s2.q2 rfl;have z3:=s2.q3 rfl;have z4:=s2.q4 rfl;have z5:=s2.q5 rfl;have z6:=s3.q0 rfl;have z7:=s3.q1 rfl;go_simp;rfl
    simp only [Act.put,ZW];refine' ZV (i:=3) rfl ?Qc hS ?Nb
    case Qc =>
     intro w' hSw;go_simp;rfl
    simp only [Act.put,ZW];refine' ZV (i:=4) rfl ?LW hS ?IJ
    case LW =>
     intro w' hSw;obtain ⟨s1,s2,s3⟩:=hSw;have z1:=s1.q0 rfl;have z2:=s2.q2 rfl;have z3:=s2.q3 rfl;have z4:=s2.q4 rfl;have z5:=s2.q5 rfl;have z6:=s3.q0 rfl;have z7:=s3.q1 rfl;go_simp;rfl
    simp only [Act.put,ZW];refine' ZV (i:=5) rfl ?LX hS ?IK
    case LX =>
     intro w' hSw;obtain ⟨s1,s2,s3⟩:=hSw;have z1:=s1.q0 rfl;have z2:=s2.q2 rfl;have z3:=s2.q3 rfl;have z4:=s2.q4 rfl;have z5:=s2.q5 rfl;have z6:=s3.q0 rfl;have z7:=s3.q1 rfl;go_simp;rfl
    simp only [Act.put,ZW];refine Yj (i:=6) (by kernel_rfl) rfl ?_;intro K hK;rw [if_pos (by rfl)];go_simp;refine ⟨trivial,?_⟩;refine (CallsIn.inRound l (callsIn_wide.2 zY.out)).mono ?_;rintro e W6 ⟨rfl,hb6⟩;have Tg:Z6 W6 g 2 #[.int .i64 (Z4 ps)]/\Z6 W6 Bx 301 #[.int .i64 (x:Int),.int .i64 (((x:Int)+1) % (ps.length:Int)),.int .i64 (Z5 ps x).1,.int .i64 (Z5 ps x).2,.int .i64 (Z5 ps ((x+1) % ps.length)).1,.int .i64 (Z5 ps ((x+1) % ps.length)).2]/\Z6 W6 (w.heap.size+1) 41 #[.int .i64 p.1,.int .i64 p.2]:=⟨S5.drew.step hb6,X5.drew.step hb6,P5.drew.step hb6⟩;refine hK.out _ _ (fun _=>Tg) ?_;clear hK K
    (try simp only [Act.put,ZW])
    refine' ZV (i:=7) rfl ?uM Tg ?o9
    case uM =>
     intro w' hSw;go_simp;rfl
    simp only [Act.put,ZW];refine' ZV (i:=8) rfl ?zuu Tg ?zrb
    case zuu =>
     intro w' hSw;go_simp;rfl
    simp only [Act.put,ZW];refine WI (by kernel_rfl) ?_ _;have T6:=T5.drew.step hb6;have O6:=O5.drew.step hb6;have N6:=N5.drew.step hb6;have Tk:Z8 (Also P (g+1+1+1)) W5 W6:=(Z8.drew _ _).trans (Z8.of_below hb6 sO);have t6:Tp W6 (Also (More P w W4) Bx) t (es++Xf pre++[(5,(x:Int),0)]):=Sz.drew.step hb6;have hf6:KeepsFrom W4.heap.size W5 W6:=(KeepsFrom.of_below (ZU (Below.refl _ _))).trans (KeepsFrom.of_below hb6);obtain ⟨s6,x6,p6⟩:=Tg;have HHB:=hide hb6;clear hS hb6 hwr x5 zY Sz sO;generalize Wn (Z4 ps) ps p x=sd at *;have OG:=hide (WY sd (by omega) (by omega) W6.drew);have hor:=SE o5 (decide (sd<0));generalize hm7:(o5 || decide (sd<0))=o7 at *;gi_wp2_with fail;refine Xy 4 (S:=fun w'=>Z6 w' (g+1) 44 #[.int .u64 (ZE o5)]) V5 ?_;have hS:Z6 W6.drew (g+1) 44 #[.int .u64 (ZE o5)]:=O6;refine' ZV (i:=0) rfl ?zun hS ?zqu
    case zun =>
     intro w' hSw;have z1:=hSw.q0 rfl;go_simp;rfl
    simp only [Act.put,getElem_toArray,getElem_cons_zero,setIfInBounds_toArray,set_cons_zero,set_cons_succ];refine' ZV (i:=1) rfl ?dQ hS ?zvn
    case dQ =>
     intro w' hSw;go_simp;rfl
    simp only [Act.put,ZW];refine Yj (i:=2) (by kernel_rfl) rfl ?_;intro K hK;rw [if_pos (by rfl)];go_simp;refine ⟨trivial,?_⟩;refine (CallsIn.inRound l (callsIn_wide.2 OG.out)).mono ?_;rintro e w' ⟨rfl,rfl⟩;refine hK.out _ _ (fun _=>hS) ?_;clear hK K
    (try simp only [Act.put,ZW])
    refine' ZV (i:=3) rfl ?eX hS ?zwg
    case eX =>
     intro w' hSw;go_simp;rfl
    simp only [Act.put,ZW];have c7:W6.drew.cell? ⟨g+1,0,none⟩=some (.int .u64 (ZE o5)):=hS.q0 rfl;have f7:=hS.frozen 0;refine Yj (i:=4) (by kernel_rfl) rfl ?_;intro K hK;rw [if_pos (by rfl)];go_simp;refine hK.out _ _ (fun h=>absurd rfl h) ?_;clear hK K;refine WI (by kernel_rfl) ?_ _;obtain ⟨W7,Qy⟩:=eE ((W6.setCell ⟨g+1,0,none⟩ (.int .u64 (ZE o7))).drew);rw [<- Qy];have O7:Z6 W7 (g+1) 44 #[.int .u64 (ZE o7)]:=(by rw [Qy];exact (O6.set 0 _).drew);have N7:Z6 W7 (g+1+1) 44 #[.int .u64 (ZE (Xh (Z4 ps) ps p pre).2)]:=(by rw [Qy];exact (N6.far (by dsimp only;omega) _).drew);have T7:Z6 W7 w.heap.size 193 #[.pointer (Zz t)]:=(by rw [Qy];exact (T6.far (by dsimp only;omega) _).drew);have P7:Z6 W7 (w.heap.size+1) 41 #[.int .i64 p.1,.int .i64 p.2]:=(by rw [Qy];exact (p6.far (by dsimp only;omega) _).drew);have S7:Z6 W7 g 2 #[.int .i64 (Z4 ps)]:=(by rw [Qy];exact (s6.far (by dsimp only;omega) _).drew);have hk7:Z8 (Also P (g+1+1+1)) W5 W7:=(by rw [Qy];exact Tk.trans ((Z8.setCell qh.out _ _ _).trans (Z8.drew _ _)));have t7:Tp W7 (Also (More P w W4) Bx) t (es++Xf pre++[(5,(x:Int),0)]):=(by rw [Qy];exact (t6.set (.inl wX.out) _ _).drew);have hf7:KeepsFrom W4.heap.size W5 W7:=(by rw [Qy];exact hf6.trans (((KeepsOthers.setCell _ _ _).from _).trans (KeepsFrom.of_below (ZU (Below.refl _ _)))));have aW:=hide Qy;clear Qy hS hor c7 f7 Tk hf6 OG O6 N6 T6 p6 s6 x6 t6;obtain ⟨hz1,hz2⟩:=VE hsb.1 hsb.2;have lD:=hide (Ut (IntKind.u64.wrap sd) hz1.1 hz1.2 W7.drew);rw [hz2] at lD;have hor:=SE (Xh (Z4 ps) ps p pre).2 (decide (sd=0));generalize hm8:((Xh (Z4 ps) ps p pre).2 || decide (sd=0))=n8 at *;generalize yL:(Xh (Z4 ps) ps p pre).2=n5 at *;clear hz1 hz2;gi_wp2_with fail;refine Xy 5 (S:=fun w'=>Z6 w' (g+1+1) 44 #[.int .u64 (ZE n5)]) V5 ?_;have hS:Z6 W7.drew (g+1+1) 44 #[.int .u64 (ZE n5)]:=N7;refine' ZV (i:=0) rfl ?dH hS ?zve
    case dH =>
     intro w' hSw;have z1:=hSw.q0 rfl;go_simp;rfl
    simp only [Act.put,getElem_toArray,getElem_cons_zero,setIfInBounds_toArray,set_cons_zero,set_cons_succ];refine' ZV (i:=1) rfl ?dS hS ?zvp
    case dS =>
     intro w' hSw;go_simp;rfl
    simp only [Act.put,ZW];refine' ZV (i:=2) rfl ?eB hS ?zvy
    case eB =>
     intro w' hSw;go_simp;rfl
    simp only [Act.put,ZW];refine Yj (i:=3) (by kernel_rfl) rfl ?_;intro K hK;rw [if_pos (by rfl)];go_simp;refine ⟨trivial,?_⟩;refine (CallsIn.inRound l (callsIn_wide.2 lD.out)).mono ?_;rintro e w' ⟨rfl,rfl⟩;refine hK.out _ _ (fun _=>hS) ?_;clear hK K
    (try simp only [Act.put,ZW])
    refine' ZV (i:=4) rfl ?fE hS ?zwp
    case fE =>
     intro w' hSw;go_simp;rfl
    simp only [Act.put,ZW];have c7:W7.drew.cell? ⟨g+1+1,0,none⟩=some (.int .u64 (ZE n5)):=hS.q0 rfl;have f7:=hS.frozen 0;refine Yj (i:=5) (by kernel_rfl) rfl ?_;intro K hK;rw [if_pos (by rfl)];go_simp;refine hK.out _ _ (fun h=>absurd rfl h) ?_;clear hK K;refine WI (by kernel_rfl) ?_ _;have HF:=hide (qU.out (W7.setCell ⟨g+1+1,0,none⟩ (.int .u64 (ZE n8))).drew (hk7.trans ((Z8.setCell HE2.out _ _ _).trans (Z8.drew _ _))) (hf7.trans (((KeepsOthers.setCell _ _ _).from _).trans (KeepsFrom.of_below (ZU (Below.refl _ _))))) (T7.far (by dsimp only;omega) _).drew (P7.far (by dsimp only;omega) _).drew (S7.far (by dsimp only;omega) _).drew (O7.far (by dsimp only;omega) _).drew (N7.set 0 _).drew (t7.set (.inl HMN.out) _ _).drew);clear t7 hk7 hf7;gi_wp2_with fail;exact HF.out
  · have hxi:¬ (x:Int)=0:=(by omega);have sU:=OD.out hx;subst sU;clear hx;clear Ru OD T1 P1 S1 O1 N1 bX;gi_wp2_with fail;refine ⟨trivial,?_⟩;refine (CallsIn.inRound l (callsIn_wide.2 (Td.out _ rfl))).mono ?_;rintro e W5 ⟨rfl,hkn,hmn,Sz⟩;have wZ:=jy.out;have T5:=Ti.kept hkn (.inl qw.out);have P5:=Pi.kept hkn (.inl qp.out);have S5:=Si.kept hkn (.inl jF.out);have O5:=Oi.kept hkn (.inl wX.out);have N5:=Ni.kept hkn (.inl HMN.out);have X5:=Xi.kept hkn (.inr rfl);have hki:Z8 (Also P (g+1+1+1)) Wi W5:=hkn.mono Nk.out;have hfi:KeepsFrom W4.heap.size Wi W5:=hmn.from Bo.out;have qU:=hide (fun W8 (hk:Z8 (Also P (g+1+1+1)) W5 W8) (hf:KeepsFrom W4.heap.size W5 W8)=>G9.out W8 (hki.trans hk) (hfi.trans hf));have hb4:=xE.out.trans hki;have sO:∀ k,Also P (g+1+1+1) k->k<W5.drew.heap.size:=fun k hk=>Nat.lt_of_lt_of_le (MP.out k hk) hb4.size;have zY:=hide (Ua.out W5.drew ((HW.out.kept (NI.out.trans (hb4.mono fun k h=>.inl h)) K6.out).step (ZU (Below.refl _ _))));have x5:=X5.q0 rfl;clear hkn hmn hki hfi hb4 wZ Ti Pi Si Oi Ni Xi ti xi G9 xE Ua Td Nk jy;gi_wp2_with fail;clear hxi;refine Xy 1000 (S:=fun w'=>Z6 w' g 2 #[.int .i64 (Z4 ps)]/\Z6 w' Bx 301 #[.int .i64 (x:Int),.int .i64 (((x:Int)+1) % (ps.length:Int)),.int .i64 (Z5 ps x).1,.int .i64 (Z5 ps x).2,.int .i64 (Z5 ps ((x+1) % ps.length)).1,.int .i64 (Z5 ps ((x+1) % ps.length)).2]/\Z6 w' (w.heap.size+1) 41 #[.int .i64 p.1,.int .i64 p.2]) V5 ?_;have hS:Z6 W5.drew g 2 #[.int .i64 (Z4 ps)]/\Z6 W5.drew Bx 301 #[.int .i64 (x:Int),.int .i64 (((x:Int)+1) % (ps.length:Int)),.int .i64 (Z5 ps x).1,.int .i64 (Z5 ps x).2,.int .i64 (Z5 ps ((x+1) % ps.length)).1,.int .i64 (Z5 ps ((x+1) % ps.length)).2]/\Z6 W5.drew (w.heap.size+1) 41 #[.int .i64 p.1,.int .i64 p.2]:=⟨S5,X5,P5⟩;refine' ZV (i:=0) rfl ?gU hS ?zxu
    case gU =>
     intro w' hSw;obtain ⟨s1,s2,s3⟩:=hSw;have z1:=s1.q0 rfl;have z2:=s2.q2 rfl;have z3:=s2.q3 rfl;have z4:=s2.q4 rfl;have z5:=s2.q5 rfl;have z6:=s3.q0 rfl;have z7:=s3.q1 rfl;go_simp;rfl
    simp only [Act.put,getElem_toArray,getElem_cons_zero,setIfInBounds_toArray,set_cons_zero,set_cons_succ];refine' ZV (i:=1) rfl ?gW hS ?zxw
    case gW =>
     intro w' hSw;go_simp;rfl
    simp only [Act.put,ZW];refine' ZV (i:=2) rfl ?gX hS ?zxx
    case gX =>
     intro w' hSw;obtain ⟨s1,s2,s3⟩:=hSw;have z1:=s1.q0 rfl;have z2:=s2.q2 rfl;have z3:=s2.q3 rfl;have z4:=s2.q4 rfl;have z5:=s2.q5 rfl;have z6:=s3.q0 rfl;have z7:=s3.q1 rfl;go_simp;rfl
    simp only [Act.put,ZW];refine' ZV (i:=3) rfl ?gY hS ?zxy
    case gY =>
     intro w' hSw;go_simp;rfl
    simp only [Act.put,ZW];refine' ZV (i:=4) rfl ?gZ hS ?zxz
    case gZ =>
     intro w' hSw;obtain ⟨s1,s2,s3⟩:=hSw;have z1:=s1.q0 rfl;have z2:=s2.q2 rfl;have z3:=s2.q3 rfl;have z4:=s2.q4 rfl;have z5:=s2.q5 rfl;have z6:=s3.q0 rfl;have z7:=s3.q1 rfl;go_simp;rfl
    simp only [Act.put,ZW];refine' ZV (i:=5) rfl ?ig hS ?zya
    case ig =>
     intro w' hSw;obtain ⟨s1,s2,s3⟩:=hSw;have z1:=s1.q0 rfl;have z2:=s2.q2 rfl;have z3:=s2.q3 rfl;have z4:=s2.q4 rfl;have z5:=s2.q5 rfl;have z6:=s3.q0 rfl;have z7:=s3.q1 rfl;go_simp;rfl
    simp only [Act.put,ZW];refine Yj (i:=6) (by kernel_rfl) rfl ?_;intro K hK;rw [if_pos (by rfl)];go_simp;refine ⟨trivial,?_⟩;refine (CallsIn.inRound l (callsIn_wide.2 zY.out)).mono ?_;rintro e W6 ⟨rfl,hb6⟩;have Tg:Z6 W6 g 2 #[.int .i64 (Z4 ps)]/\Z6 W6 Bx 301 #[.int .i64 (x:Int),.int .i64 (((x:Int)+1) % (ps.length:Int)),.int .i64 (Z5 ps x).1,.int .i64 (Z5 ps x).2,.int .i64 (Z5 ps ((x+1) % ps.length)).1,.int .i64 (Z5 ps ((x+1) % ps.length)).2]/\Z6 W6 (w.heap.size+1) 41 #[.int .i64 p.1,.int .i64 p.2]:=⟨S5.drew.step hb6,X5.drew.step hb6,P5.drew.step hb6⟩;refine hK.out _ _ (fun _=>Tg) ?_;clear hK K
    (try simp only [Act.put,ZW])
    refine' ZV (i:=7) rfl ?iq Tg ?zyb
    case iq =>
     intro w' hSw;go_simp;rfl
    simp only [Act.put,ZW];refine' ZV (i:=8) rfl ?iw Tg ?zyc
    case iw =>
     intro w' hSw;go_simp;rfl
    simp only [Act.put,ZW];refine WI (by kernel_rfl) ?_ _;have T6:=T5.drew.step hb6;have O6:=O5.drew.step hb6;have N6:=N5.drew.step hb6;have Tk:Z8 (Also P (g+1+1+1)) W5 W6:=(Z8.drew _ _).trans (Z8.of_below hb6 sO);have t6:Tp W6 (Also (More P w W4) Bx) t (es++Xf pre++[(5,(x:Int),0)]):=Sz.drew.step hb6;have hf6:KeepsFrom W4.heap.size W5 W6:=(KeepsFrom.of_below (ZU (Below.refl _ _))).trans (KeepsFrom.of_below hb6);obtain ⟨s6,x6,p6⟩:=Tg;have HHB:=hide hb6;clear hS hb6 hwr x5 zY Sz sO;generalize Wn (Z4 ps) ps p x=sd at *;have OG:=hide (WY sd (by omega) (by omega) W6.drew);have hor:=SE o5 (decide (sd<0));generalize hm7:(o5 || decide (sd<0))=o7 at *;gi_wp2_with fail;refine Xy 4 (S:=fun w'=>Z6 w' (g+1) 44 #[.int .u64 (ZE o5)]) V5 ?_;have hS:Z6 W6.drew (g+1) 44 #[.int .u64 (ZE o5)]:=O6;refine' ZV (i:=0) rfl ?gV hS ?zxv
    case gV =>
     intro w' hSw;have z1:=hSw.q0 rfl;go_simp;rfl
    simp only [Act.put,getElem_toArray,getElem_cons_zero,setIfInBounds_toArray,set_cons_zero,set_cons_succ];refine' ZV (i:=1) rfl ?nQ hS ?zzq
    case nQ =>
     intro w' hSw;go_simp;rfl
    simp only [Act.put,ZW];refine Yj (i:=2) (by kernel_rfl) rfl ?_;intro K hK;rw [if_pos (by rfl)];go_simp;refine ⟨trivial,?_⟩;refine (CallsIn.inRound l (callsIn_wide.2 OG.out)).mono ?_;rintro e w' ⟨rfl,rfl⟩;refine hK.out _ _ (fun _=>hS) ?_;clear hK K
    (try simp only [Act.put,ZW])
    refine' ZV (i:=3) rfl ?nT hS ?zzt
    case nT =>
     intro w' hSw;go_simp;rfl
    simp only [Act.put,ZW];have c7:W6.drew.cell? ⟨g+1,0,none⟩=some (.int .u64 (ZE o5)):=hS.q0 rfl;have f7:=hS.frozen 0;refine Yj (i:=4) (by kernel_rfl) rfl ?_;intro K hK;rw [if_pos (by rfl)];go_simp;refine hK.out _ _ (fun h=>absurd rfl h) ?_;clear hK K;refine WI (by kernel_rfl) ?_ _;obtain ⟨W7,Qy⟩:=eE ((W6.setCell ⟨g+1,0,none⟩ (.int .u64 (ZE o7))).drew);rw [<- Qy];have O7:Z6 W7 (g+1) 44 #[.int .u64 (ZE o7)]:=(by rw [Qy];exact (O6.set 0 _).drew);have N7:Z6 W7 (g+1+1) 44 #[.int .u64 (ZE (Xh (Z4 ps) ps p pre).2)]:=(by rw [Qy];exact (N6.far (by dsimp only;omega) _).drew);have T7:Z6 W7 w.heap.size 193 #[.pointer (Zz t)]:=(by rw [Qy];exact (T6.far (by dsimp only;omega) _).drew);have P7:Z6 W7 (w.heap.size+1) 41 #[.int .i64 p.1,.int .i64 p.2]:=(by rw [Qy];exact (p6.far (by dsimp only;omega) _).drew);have S7:Z6 W7 g 2 #[.int .i64 (Z4 ps)]:=(by rw [Qy];exact (s6.far (by dsimp only;omega) _).drew);have hk7:Z8 (Also P (g+1+1+1)) W5 W7:=(by rw [Qy];exact Tk.trans ((Z8.setCell qh.out _ _ _).trans (Z8.drew _ _)));have t7:Tp W7 (Also (More P w W4) Bx) t (es++Xf pre++[(5,(x:Int),0)]):=(by rw [Qy];exact (t6.set (.inl wX.out) _ _).drew);have hf7:KeepsFrom W4.heap.size W5 W7:=(by rw [Qy];exact hf6.trans (((KeepsOthers.setCell _ _ _).from _).trans (KeepsFrom.of_below (ZU (Below.refl _ _)))));have aW:=hide Qy;clear Qy hS hor c7 f7 Tk hf6 OG O6 N6 T6 p6 s6 x6 t6;obtain ⟨hz1,hz2⟩:=VE hsb.1 hsb.2;have lD:=hide (Ut (IntKind.u64.wrap sd) hz1.1 hz1.2 W7.drew);rw [hz2] at lD;have hor:=SE (Xh (Z4 ps) ps p pre).2 (decide (sd=0));generalize hm8:((Xh (Z4 ps) ps p pre).2 || decide (sd=0))=n8 at *;generalize yL:(Xh (Z4 ps) ps p pre).2=n5 at *;clear hz1 hz2;gi_wp2_with fail;refine Xy 5 (S:=fun w'=>Z6 w' (g+1+1) 44 #[.int .u64 (ZE n5)]) V5 ?_;have hS:Z6 W7.drew (g+1+1) 44 #[.int .u64 (ZE n5)]:=N7;refine' ZV (i:=0) rfl ?nP hS ?zzp
    case nP =>
     intro w' hSw;have z1:=hSw.q0 rfl;go_simp;rfl
    simp only [Act.put,getElem_toArray,getElem_cons_zero,setIfInBounds_toArray,set_cons_zero,set_cons_succ];refine' ZV (i:=1) rfl ?nR hS ?zzr
    case nR =>
     intro w' hSw;go_simp;rfl
    simp only [Act.put,ZW];refine' ZV (i:=2) rfl ?nS hS ?zzs
    case nS =>
     intro w' hSw;go_simp;rfl
    simp only [Act.put,ZW];refine Yj (i:=3) (by kernel_rfl) rfl ?_;intro K hK;rw [if_pos (by rfl)];go_simp;refine ⟨trivial,?_⟩;refine (CallsIn.inRound l (callsIn_wide.2 lD.out)).mono ?_;rintro e w' ⟨rfl,rfl⟩;refine hK.out _ _ (fun _=>hS) ?_;clear hK K
    (try simp only [Act.put,ZW])
    refine' ZV (i:=4) rfl ?nU hS ?zzu
    case nU =>
     intro w' hSw;go_simp;rfl
    simp only [Act.put,ZW];have c7:W7.drew.cell? ⟨g+1+1,0,none⟩=some (.int .u64 (ZE n5)):=hS.q0 rfl;have f7:=hS.frozen 0;refine Yj (i:=5) (by kernel_rfl) rfl ?_;intro K hK;rw [if_pos (by rfl)];go_simp;refine hK.out _ _ (fun h=>absurd rfl h) ?_;clear hK K;refine WI (by kernel_rfl) ?_ _;have HF:=hide (qU.out (W7.setCell ⟨g+1+1,0,none⟩ (.int .u64 (ZE n8))).drew (hk7.trans ((Z8.setCell HE2.out _ _ _).trans (Z8.drew _ _))) (hf7.trans (((KeepsOthers.setCell _ _ _).from _).trans (KeepsFrom.of_below (ZU (Below.refl _ _))))) (T7.far (by dsimp only;omega) _).drew (P7.far (by dsimp only;omega) _).drew (S7.far (by dsimp only;omega) _).drew (O7.far (by dsimp only;omega) _).drew (N7.set 0 _).drew (t7.set (.inl HMN.out) _ _).drew);clear t7 hk7 hf7;gi_wp2_with fail;exact HF.out
 case done =>
  rintro D zs W hD rfl ⟨⟨⟨⟨T1,P1⟩,S1⟩,O1,N1⟩,hB1,hT1⟩ hK;have o1:=O1.q0 rfl;have n1:=N1.q0 rfl;have hB2:Z8 P w W:=NI.out.trans (hB1.mono fun k h=>.inl h);have jF:=hide (J4 (Xh (Z4 ps) ps p (List.range (Y6 ps.length))).1 (Xh (Z4 ps) ps p (List.range (Y6 ps.length))).2 W (HW.out.kept hB2 K6.out).1);gi_wp2_with fail;refine ⟨trivial,?_⟩;refine (callsIn_wide.2 jF.out).mono ?_;rintro e w' ⟨rfl,m,rfl⟩;gi_wp2;refine ⟨by simp,.inl ⟨_,_,rfl,run_takeDeferred hK,?_⟩⟩;refine ⟨_,results_tmp rfl _ _ _,rfl,(hB2.trans (Z8.of_below (Zh (Below.refl W.heap.size W) m) fun k hk=>?_)).trans (Z8.putObj _ (fun h=>?_) _),?_⟩
  · exact Nat.lt_of_lt_of_le (MP.out k (.inl hk)) hB1.size
  · have:=MP.out D (.inl h);omega
  · have h7:=(hT1.mono (R:=P) fun k h=>.inl h).step (Zh (Below.refl W.heap.size W) m);exact h7.putObj (fun u hu=>Nat.lt_of_lt_of_le (Bo.out u hu) hD) hK rfl _
 case stop =>
  rintro D c pre W _ _ h _;exact h.elim
end
end Go.Proofs.YthnenedoblncjaaGreatDoor