/- Edges Locate -/
import Derived.ChangeAlike
import Derived.LoopIn
import Derived.LoopNIn
import Derived.OwnWalkIn
import Derived.RangeFuncBound
import Derived.RangeFuncCalls
import Derived.RangeFuncLeaves
import Derived.RangeFuncNested
import Derived.Shelf.Abstract
import Derived.Shelf.RegionOpen
import Derived.TacticsInMore
import Derived.Test.YthnenedoblncjaaGreatDoorPkP12
set_option maxRecDepth 1000000
set_option maxHeartbeats 8000000
namespace Go.Proofs.YthnenedoblncjaaGreatDoor
open List (getElem_toArray getElem_cons_succ getElem_cons_zero setIfInBounds_toArray set_cons_zero set_cons_succ)
section
open Go.RowKit Go.Shelf
attribute [local go_sem] Oper.semAt_some
def edgeN (n:Nat):Nat:=if 3≤n∧n≤64 then n else 0
def encE (ps:List Pt) (i:Nat):Array Value :=
 #[.agg #[.int .i64 (i:Int),.int .i64 (((i+1) % ps.length:Nat):Int),.int .i64 (ptAt ps i).1,.int .i64 (ptAt ps i).2,.int .i64 (ptAt ps ((i+1) % ps.length)).1,.int .i64 (ptAt ps ((i+1) % ps.length)).2]]
theorem grown_drew (W:World):W.grownBy W.drew none:=⟨rfl,rfl,rfl,Nat.le_refl _,fun _ _ _=>rfl⟩
theorem edges1_none (n:Nat) (l Bv:Nat) (ps:List Pt) (hn:¬ (3≤ps.length∧ps.length≤64)) (A:Option Addr) (c:Nat) (W:World) (hBv:W.cell? ⟨Bv,0,none⟩=some (.slice A ps.length c)) :
 CallsIn Fence.wide n Tryz.prog 304 #[.func (.yield l) #[] #[],.pointer (some ⟨Bv,0,none⟩)] W fun e W'=>(∃ v,e=.returned v)∧W'=W:=by
 refine callsIn_wide.2 ?_
 have hc:((ps.length:Nat):Int)<3∨((64:Int)<((ps.length:Nat):Int)∧¬ ((ps.length:Nat):Int)<3):=by omega
 rcases hc with h | ⟨h,h2⟩
 · go_enter Tryz.func304,Tryz.ntmps304
   go_wp2
   refine bodyPost_ret (results_none rfl _ _ _) rfl ?_
   exact ⟨⟨_,rfl⟩,rfl⟩
 · go_enter Tryz.func304,Tryz.ntmps304
   go_wp2
   refine bodyPost_ret (results_none rfl _ _ _) rfl ?_
   exact ⟨⟨_,rfl⟩,rfl⟩
theorem edges1_in (n:Nat) (hn1:1≤n) (l Bv:Nat) (PE:Nat→Prop) (ps:List Pt) (h3:3≤ps.length) (h64:ps.length≤64) (A:Option Addr) (c:Nat) (J Jx:List Nat→World→Prop) (W:World)
 (hJ:AbidesFrom W.heap.size J) (hPE:∀ k,PE k→k<W.heap.size) (hPB:PE Bv)
 (hY:∀ pre x W1,J pre W1→pre.length<edgeN ps.length→YieldAt Fence.wide (n - 1) Tryz.prog l (encE ps x) W1 fun e W' =>
   (e=.returned (.bool true)∧J (pre++[x]) W'∧KeepP PE W1 W')∨(e=.returned (.bool false)∧Jx (pre++[x]) W'))
 (hBv:Blk W Bv 36 #[.slice A ps.length c]) (hs:SlP W PE A (ptCs ps)) (h0:J [] W) :
 CallsIn Fence.wide n Tryz.prog 304 #[.func (.yield l) #[] #[],.pointer (some ⟨Bv,0,none⟩)] W fun e W'=>(∃ v,e=.returned v) ∧
  ((∃ ys,ys=List.range (edgeN ps.length)∧J ys W')∨(∃ pre,pre <+: List.range (edgeN ps.length)∧Jx pre W')):=by
 have hE:edgeN ps.length=ps.length:=by unfold edgeN;rw [if_pos ⟨h3,h64⟩]
 rw [hE] at hY ⊢
 have g3:¬ ((ps.length:Nat):Int)<3:=by omega
 have g64:¬ (64:Int)<((ps.length:Nat):Int):=by omega
 have cv:=hBv.cell (i:=0) rfl
 have HY:=hide hY
 have HJ:=hide hJ
 clear hY hJ
 refine callsIn_of_wp Tryz.func304 rfl trivial ?_ rfl
 simp only [Tryz.ntmps304,List.size_toArray,List.length_cons,List.length_nil,Nat.reduceAdd,Nat.reduceSub,Array.replicate_succ,Array.replicate_zero,List.push_toArray,List.append_toArray,List.nil_append,List.cons_append]
 gi_wp2
 gi_loopw [16] (fun i wr=>∃ k:Nat,k≤ps.length∧i=.int .i64 k∧J (List.range k) wr∧KeepP PE W wr)
  (fun i _=>ps.length - (intOf i).toNat)
 case atStart=>exact ⟨0,Nat.zero_le _,rfl,h0,KeepP.refl _ _⟩
 case round =>
  obtain ⟨k,hk,rfl,hJs,hkp⟩:=hrel
  by_cases hlt:k<ps.length
  · have cvr:wr.cell? ⟨Bv,0,none⟩=some (.slice A ps.length c):=(hBv.kept hkp hPB).cell (i:=0) rfl
    have hsr:=(hs.kept hkp).sl hPE
    have hlti:((k:Nat):Int)<((ps.length:Nat):Int):=by omega
    obtain ⟨nx,hnx⟩:∃ nx,nx=(k+1) % ps.length:=⟨_,rfl⟩
    have hnl:nx<ps.length:=by rw [hnx];exact Nat.mod_lt _ (by omega)
    have hnli:((nx:Nat):Int)<((ps.length:Nat):Int):=by omega
    have hm:((k:Int)+1) % ((ps.length:Nat):Int)=(nx:Int):=by rw [hnx];rfl
    obtain ⟨b,off,rfl,hb⟩:=sl_pts hsr (by omega)
    obtain ⟨a0,a1⟩:=sl_pt hsr hlt
    obtain ⟨b0,b1⟩:=sl_pt hsr hnl
    have hJd:J (List.range k) wr.drew:=HJ.out _ _ _ none hJs (grown_drew wr) (fun r e=>by cases e)
    obtain ⟨fn,tmps,assign,body,hy,hR⟩:=HY.out (List.range k) k wr.drew hJd (by simpa using hlt)
    unfold encE at hy
    rw [← hnx] at hy
    have hR2:=hide (hR.mono (R':=fun e W'=>∃ r,e=.returned (.bool r)∧(r=true→J (List.range (k+1)) W'∧KeepP PE wr W')∧(r=false→Jx (List.range (k+1)) W')) (by
     rintro e W' (⟨rfl,h1,h2⟩ | ⟨rfl,h1⟩)
     · exact ⟨true,rfl,fun _=>⟨by rw [List.range_succ];exact h1,(KeepP.drew PE wr).trans h2⟩,fun h=>by cases h⟩
     · exact ⟨false,rfl,(fun h=>by cases h),fun _=>by rw [List.range_succ];exact h1⟩))
    generalize hpk:ptAt ps k=pk at *
    generalize hpn:ptAt ps nx=pn at *
    obtain ⟨x1,y1⟩:=pk
    obtain ⟨x2,y2⟩:=pn
    have hcapn:(nx:Int)*2=((nx*2:Nat):Int):=by omega
    clear hR hJd hJs hpk hpn hsr hnx hcapn
    dsimp only at *
    have hmix:Tryz.prog.follows .mixedOrders=true:=by kernel_rfl
    have hpre:List.range (k+1) <+: List.range ps.length:=by
     have e:List.range (k+1)=(List.range ps.length).take (k+1):=by rw [List.take_range,Nat.min_eq_left (by omega)]
     rw [e];exact List.take_prefix _ _
    gi_wp2
    rw [hm]
    gi_region_with_o (refine hR2.out.mono ?_;rintro e W3 ⟨r,rfl,hr1,hr2⟩)
    all_goals
     have HR1:=hide hr1
     have HR2:=hide hr2
     clear hr1 hr2 hy hR2
     cases r with
     | false =>
       gi_wp2
       refine bodyPost_ret (results_none rfl _ _ _) rfl ?_
       exact ⟨⟨_,rfl⟩,.inr ⟨List.range (k+1),hpre,by simpa using HR2.out⟩⟩
     | true =>
       gi_wp2
       go_roundw
       case rel=>exact ⟨k+1,by omega,by go_num,(HR1.out rfl).1,hkp.trans (HR1.out rfl).2⟩
       case measure=>simp [intOf];omega
  · obtain rfl:k=ps.length:=by omega
    gi_wp2
    go_end0
    exact ⟨⟨_,rfl⟩,.inl ⟨_,rfl,hJs⟩⟩
theorem edges_stops (n:Nat) (hn1:1≤n) (Bv:Nat) (PE:Nat→Prop) (ps:List Pt) (A:Option Addr) (c:Nat) (w:World) (hPE:∀ k,PE k→k<w.heap.size) (hPB:PE Bv) (hBv:Blk w Bv 36 #[.slice A ps.length c]) (hs:SlP w PE A (ptCs ps)) :
 SeqStopsK Fence.wide n Tryz.prog 304 #[.pointer (some ⟨Bv,0,none⟩)] (encE ps) (KeepP PE) (fun ys=>ys=List.range (edgeN ps.length)) (fun pre=>pre <+: List.range (edgeN ps.length)) (edgeN ps.length) w:=by
 intro l J Jx W hW hJ _ hY h0
 have hk:KeepP PE w W:=KeepP.of_below hW hPE
 have hB:Blk W Bv 36 #[.slice A ps.length c]:=hBv.step hW
 by_cases h:3≤ps.length∧ps.length≤64
 · exact edges1_in n hn1 l Bv PE ps h.1 h.2 A c J Jx W hJ (fun k hp=>Nat.lt_of_lt_of_le (hPE k hp) hW.size) hPB hY hB (hs.kept hk) h0
 · refine (edges1_none n l Bv ps h A c W (hB.cell (i:=0) rfl)).mono ?_
   rintro e W' ⟨hv,rfl⟩
   exact ⟨hv,.inl ⟨[],by unfold edgeN;rw [if_neg h];rfl,h0⟩⟩
theorem edges_any (v:Value) (A:Option Addr) (n c:Nat) (hv:v=.slice A n c) (w:World) :
 Calls Tryz.prog 258 #[v] w fun e w'=>e=.returned (.func (.func 304) #[] #[.pointer (some ⟨w.heap.size,0,none⟩)])∧w'=w.alloc (.cells #[.slice A n c] 36):=by
 subst hv
 go_enter Tryz.func258,Tryz.ntmps258
 go_wp2
 go_ret
 exact ⟨rfl,rfl⟩
end
section
open Go.RowKit Go.Shelf
attribute [local go_sem] Oper.semAt_some
theorem blk_own {β:Type} (B:Nat) (t:TypeId) (f:β→Array Value):Own (fun s W=>Blk W B t (f s)):=fun s X Y row hs hg hrow =>
 (hg.block B hs.lt (fun e'=>by obtain ⟨o,ho,hc⟩:=hrow B e'.symm;rw [show X.heap[B]?=_ from hs] at ho;cases ho;cases hc)).trans hs
theorem KeepsFrom.of_below {B:Nat} {W W':World} (h:Below W.heap.size W W'):KeepsFrom B W W' :=
 ⟨h.size,fun k _ _ hk _=>(h.block k (Array.getElem?_eq_some_iff.1 hk).1).trans hk⟩
def sideE (s:Int) (ps:List Pt) (p:Pt) (i:Nat):Int:=s*(orientD (ptAt ps i) (ptAt ps ((i+1) % ps.length)) p).sign
def locF (s:Int) (ps:List Pt) (p:Pt) (pre:List Nat):Bool × Bool :=
 pre.foldl (fun st i=>((bif decide (i=0) then false else st.1) || decide (sideE s ps p i<0),st.2 || decide (sideE s ps p i=0))) (true,false)
theorem locF_snoc (s:Int) (ps:List Pt) (p:Pt) (pre:List Nat) (i:Nat):locF s ps p (pre++[i]) =
 ((bif decide (i=0) then false else (locF s ps p pre).1) || decide (sideE s ps p i<0),(locF s ps p pre).2 || decide (sideE s ps p i=0)):=by
 simp [locF]
def locV (ps:List Pt) (p:Pt):Int:=sgnM (locF (orientV ps) ps p (List.range (edgeN ps.length))).1 (locF (orientV ps) ps p (List.range (edgeN ps.length))).2
theorem msk_or (a b:Bool):bits BinOp.or IntKind.u64 (msk a) (msk b)=msk (a || b):=by cases a <;> cases b <;> decide
theorem orientV_sign (ps:List Pt):(orientV ps).sign=orientV ps:=by
 unfold orientV
 split
 · exact Int.sign_sign
 · rfl
theorem sideE_wrap (ps:List Pt) (p:Pt) (i:Nat):IntKind.i64.wrap (orientV ps*(orientD (ptAt ps i) (ptAt ps ((i+1) % ps.length)) p).sign)=sideE (orientV ps) ps p i:=by
 have h:=sign_mul_wrap (orientV ps) (orientD (ptAt ps i) (ptAt ps ((i+1) % ps.length)) p)
 rw [orientV_sign] at h
 exact h
theorem sideE_bd (ps:List Pt) (p:Pt) (i:Nat):-1≤sideE (orientV ps) ps p i∧sideE (orientV ps) ps p i≤1:=by
 unfold sideE
 rw [← orientV_sign]
 rcases sign_bd (orientV ps) with h | h | h <;> rcases sign_bd (orientD (ptAt ps i) (ptAt ps ((i+1) % ps.length)) p) with h' | h' | h' <;> rw [h,h'] <;> decide
theorem wrap_u64_zero {x:Int} (h0:-1≤x) (h1:x≤1):(0≤IntKind.u64.wrap x∧IntKind.u64.wrap x<18446744073709551616)∧decide (IntKind.u64.wrap x=0)=decide (x=0):=by
 have h:x=-1∨x=0∨x=1:=by omega
 rcases h with rfl | rfl | rfl <;> decide
def Also (P:Nat→Prop) (b k:Nat):Prop:=P k∨k=b
theorem calls_third {F:Nat} {a b d:Value} {k:IntKind} {x y:Int} {w:World} {R:Ending→World→Prop} (h:Calls Tryz.prog F #[a,b,.int k x,d] w R) (e:y=x):Calls Tryz.prog F #[a,b,.int k y,d] w R:=by rw [e];exact h
def locEv (pre:List Nat):List Ev:=pre.map fun (i:Nat)=>(5,(i:Int),0)
theorem MW.kept {w w':World} {P:Nat→Prop} (h:MW w) (hk:KeepP P w w') (h0:P 8):MW w':=⟨⟨(hk.cell h0 _).trans h.1.1,(hk.cell h0 _).trans h.1.2⟩,Nat.lt_of_lt_of_le h.2 hk.size⟩
theorem locate_any (P:Nat→Prop) (t:Option (Nat × Nat)) (es:List Ev) (ps:List Pt) (hps:PsJ ps) (hn:ps.length≤10000) (A:Option Addr) (c:Nat) (p:Pt) (hp:PJ p) (w:World) (hP:∀ k,P k→k<w.heap.size) (hg0:P 8) (hs:SlP w P A (ptCs ps)) (hw:MW w) (ht:Tp w P t es) (hl:es.length≤900000) :
 Calls Tryz.prog 194 #[.pointer (tapeA t),.slice A ps.length c,.agg #[.int .i64 p.1,.int .i64 p.2]] w fun e w'=>e=.returned (.int .i64 (locV ps p))∧KeepP P w w'∧Tp w' P t (es++locEv (List.range (edgeN ps.length))):=by
 obtain ⟨w0,hw0⟩:∃ w0,w0=(w.alloc (.cells #[.pointer (tapeA t)] 193)).alloc (.cells #[.int .i64 p.1,.int .i64 p.2] 41):=⟨_,rfl⟩
 have hb0:Below w.heap.size w w0:=by rw [hw0];exact bl_alloc (bA) _
 have T0:Blk w0 w.heap.size 193 #[.pointer (tapeA t)]:=by rw [hw0];exact (Blk.new _ _ _).alloc _
 have P0:Blk w0 (w.heap.size+1) 41 #[.int .i64 p.1,.int .i64 p.2]:=by rw [hw0];exact Blk.new2 _ _ _ _
 have HOR:=hide (orientation_any ps hps hn A c w0 (((hs.sl hP).below hb0).more hb0.size) (hw.step hb0))
 refine (callsIn_wide (n:=6)).1 ?_
 refine callsIn_of_wp_marks Tryz.func194 rfl trivial ?_ rfl
 simp only [Tryz.ntmps194,List.size_toArray,List.length_cons,List.length_nil,Nat.reduceAdd,Nat.reduceSub,Array.replicate_succ,Array.replicate_zero,List.push_toArray,List.append_toArray,List.nil_append,List.cons_append]
 gi_wp2_with fail
 rw [← hw0]
 have HW0:=hide hw0
 clear hw0
 refine ⟨trivial,?_⟩
 refine (callsIn_wide.2 HOR.out).mono ?_
 rintro e w1 ⟨rfl,hb1⟩
 obtain ⟨g,hg⟩:∃ g,g=w1.heap.size:=⟨_,rfl⟩
 obtain ⟨w2,hw2⟩:∃ w2,w2=w1.alloc (.cells #[.int .i64 (orientV ps)] 2):=⟨_,rfl⟩
 gi_wp2_with fail
 rw [← hw2]
 have HO1:=hide (of_any 1 (by omega) (by omega) w2)
 refine ⟨trivial,?_⟩
 refine (callsIn_wide.2 HO1.out).mono ?_
 rintro e w2' ⟨rfl,rfl⟩
 gi_wp2_with fail
 refine ⟨trivial,?_⟩
 refine (callsIn_wide.2 (edges_any _ A ps.length c rfl _)).mono ?_
 rintro e w3 ⟨rfl,rfl⟩
 have hs2:(((w1.alloc (.cells #[.int .i64 (orientV ps)] 2)).alloc (.cells #[.int .u64 (msk true)] 44)).alloc (.cells #[.int .u64 0] 44)).heap.size=g+1+1+1:=by simp [hg]
 rw [hs2]
 have G0:Blk ((((w1.alloc (.cells #[.int .i64 (orientV ps)] 2)).alloc (.cells #[.int .u64 (msk true)] 44)).alloc (.cells #[.int .u64 0] 44)).alloc (.cells #[.slice A ps.length c] 36)) g 2 #[.int .i64 (orientV ps)]:=by
  rw [hg];exact (((Blk.new _ _ _).alloc _).alloc _).alloc _
 have G1:Blk ((((w1.alloc (.cells #[.int .i64 (orientV ps)] 2)).alloc (.cells #[.int .u64 (msk true)] 44)).alloc (.cells #[.int .u64 0] 44)).alloc (.cells #[.slice A ps.length c] 36)) (g+1) 44 #[.int .u64 (msk true)]:=by
  rw [hg];exact ((Blk.new2 _ _ _ _).alloc _).alloc _
 have G2:Blk ((((w1.alloc (.cells #[.int .i64 (orientV ps)] 2)).alloc (.cells #[.int .u64 (msk true)] 44)).alloc (.cells #[.int .u64 0] 44)).alloc (.cells #[.slice A ps.length c] 36)) (g+1+1) 44 #[.int .u64 0]:=by
  have h2:=(Blk.new ((w1.alloc (.cells #[.int .i64 (orientV ps)] 2)).alloc (.cells #[.int .u64 (msk true)] 44)) 44 #[.int .u64 0]).alloc (.cells #[.slice A ps.length c] 36)
  simp only [World.size_alloc,← hg] at h2
  exact h2
 have G3:Blk ((((w1.alloc (.cells #[.int .i64 (orientV ps)] 2)).alloc (.cells #[.int .u64 (msk true)] 44)).alloc (.cells #[.int .u64 0] 44)).alloc (.cells #[.slice A ps.length c] 36)) (g+1+1+1) 36 #[.slice A ps.length c]:=by
  have h2:=Blk.new (((w1.alloc (.cells #[.int .i64 (orientV ps)] 2)).alloc (.cells #[.int .u64 (msk true)] 44)).alloc (.cells #[.int .u64 0] 44)) 36 #[.slice A ps.length c]
  rw [hs2] at h2
  exact h2
 have hb4:Below w1.heap.size w1 ((((w1.alloc (.cells #[.int .i64 (orientV ps)] 2)).alloc (.cells #[.int .u64 (msk true)] 44)).alloc (.cells #[.int .u64 0] 44)).alloc (.cells #[.slice A ps.length c] 36)):=bl_alloc (bl_alloc (bl_alloc (bA) _) _) _
 have hs4:((((w1.alloc (.cells #[.int .i64 (orientV ps)] 2)).alloc (.cells #[.int .u64 (msk true)] 44)).alloc (.cells #[.int .u64 0] 44)).alloc (.cells #[.slice A ps.length c] 36)).heap.size=g+4:=by simp [hg]
 obtain ⟨W4,hW4⟩:∃ W4,((((w1.alloc (.cells #[.int .i64 (orientV ps)] 2)).alloc (.cells #[.int .u64 (msk true)] 44)).alloc (.cells #[.int .u64 0] 44)).alloc (.cells #[.slice A ps.length c] 36))=W4:=⟨_,rfl⟩
 rw [hW4] at G0 G1 G2 G3 hb4 hs4
 gi_wp2_with fail
 rw [← hg]
 have hB4:Below w.heap.size w W4:=bl_step (bl_step hb0 hb1) hb4
 have hgw:w.heap.size+2≤g:=by
  have h1:=hb1.size
  have h2:w0.heap.size=w.heap.size+2:=by rw [HW0.out];simp
  omega
 have T4:=(T0.step hb1).step hb4
 have P4:=(P0.step hb1).step hb4
 have HPS:=hide hps
 have HP:=hide hp
 have HW:=hide hw
 have HSL:=hide (hs.kept (KeepP.of_below hB4 hP))
 have hPE:∀ k,Also P (g+1+1+1) k→k<W4.heap.size:=fun k hk=>by
  rcases hk with hk | hk
  · exact Nat.lt_of_lt_of_le (hP k hk) hB4.size
  · omega
 have hT4:=ht.more hB4
 have hmb:∀ u,t=some u→u.2<W4.heap.size:=fun u hu=>Nat.lt_of_lt_of_le (ht.m_lt u hu) hB4.size
 have hE1:¬ Also P (g+1+1+1) (g+1):=by
  rintro (h | h)
  · have:=hP _ h;omega
  · omega
 have hE2:¬ Also P (g+1+1+1) (g+1+1):=by
  rintro (h | h)
  · have:=hP _ h;omega
  · omega
 have hM:∀ k,w.heap.size≤k→k<g+4→More P w W4 k:=fun k h1 h2=>.inr ⟨h1,by omega⟩
 have HMT:=hide (hM w.heap.size (by omega) (by omega));have HMP:=hide (hM (w.heap.size+1) (by omega) (by omega));have HMS:=hide (hM g (by omega) (by omega));have HMO:=hide (hM (g+1) (by omega) (by omega));have HMN:=hide (hM (g+1+1) (by omega) (by omega));have HMV:=hide (hM (g+1+1+1) (by omega) (by omega))
 have hK0:KeepP P w W4:=KeepP.of_below hB4 hP
 have hPP:∀ k,Also P (g+1+1+1) k→k<W4.heap.size∧k<W4.heap.size:=fun k hk=>⟨hPE k hk,hPE k hk⟩
 have hPM:∀ k,More P w W4 k→k<W4.heap.size:=more_lt hP hB4
 have HE1:=hide hE1;have HE2:=hide hE2;have HPE:=hide hPE;have HMB:=hide hmb;have HT4:=hide hT4;have HK0:=hide hK0;have HPP:=hide hPP;have HPM:=hide hPM;have HG0:=hide hg0
 clear hE1 hE2 hPE hmb hT4 hM hK0 hPP hPM hg0 ht hP
 clear hW4 hg hs2 HO1 HOR T0 P0 hps hp hw hs hb0 hb1 hb4 HW0 hB4
 refine wpIn_rangeFunc_ownH rfl (by omega) (gf:=304) (lb:=#[.pointer (some ⟨g+1+1+1,0,none⟩)]) rfl trivial (enters_of Tryz.func304 (by kernel_rfl) rfl)
  (edges_stops 5 (by omega) (g+1+1+1) (Also P (g+1+1+1)) ps A c W4 HPE.out (.inr rfl) G3 (HSL.out.mono fun k h=>.inl h)) KeepP.trans (fun W l o o' hl _ _ _=>KeepP.putObj o' (fun h=>by have:=HPE.out _ h;omega) W) (Below.refl _ _) (fun _=>rfl)
  (fun pre W=>(((Blk W w.heap.size 193 #[.pointer (tapeA t)]∧Blk W (w.heap.size+1) 41 #[.int .i64 p.1,.int .i64 p.2])∧Blk W g 2 #[.int .i64 (orientV ps)])∧(Blk W (g+1) 44 #[.int .u64 (msk (locF (orientV ps) ps p pre).1)]∧Blk W (g+1+1) 44 #[.int .u64 (msk (locF (orientV ps) ps p pre).2)]))∧(KeepP (Also P (g+1+1+1)) W4 W∧Tp W (More P w W4) t (es++locEv pre)))
  (fun _ _ _=>False)
  (OwnFrom.and (OwnFrom.and (OwnFrom.and (OwnFrom.and (Own.from (blk_own _ _ _) _) (Own.from (blk_own _ _ _) _)) (Own.from (blk_own _ _ _) _)) (OwnFrom.and (Own.from (blk_own _ _ _) _) (Own.from (blk_own _ _ _) _))) (OwnFrom.and (keepP_ownFrom HPP.out) (tp_ownFrom _ (More P w W4) t (fun pre=>es++locEv pre) HMB.out)))
  (fun _ _ _ _ _ hs _ _=>hs)
  ⟨⟨⟨⟨T4,P4⟩,G0⟩,G1,G2⟩,KeepP.refl _ _,by simpa [locEv] using HT4.out⟩
  (fun x a' W=>∃ Bx es',g+1+1<Bx∧Tp W (Also (More P w W4) Bx) t es'∧Blk W Bx 301 #[.int .i64 (x:Int),.int .i64 (((x:Int)+1) % (ps.length:Int)),.int .i64 (ptAt ps x).1,.int .i64 (ptAt ps x).2,.int .i64 (ptAt ps ((x+1) % ps.length)).1,.int .i64 (ptAt ps ((x+1) % ps.length)).2]∧a'={ tmps:=#[.pointer (tapeA t),.slice A ps.length c,.agg #[.int .i64 p.1,.int .i64 p.2],.pointer (some ⟨w.heap.size,0,none⟩),undef,.pointer (some ⟨w.heap.size+1,0,none⟩),.int .i64 0,.pointer (some ⟨g,0,none⟩),.pointer (some ⟨g+1,0,none⟩),.pointer (some ⟨g+1+1,0,none⟩),.pointer (some ⟨Bx,0,none⟩),undef,.slice A ps.length c,.int .i64 (orientV ps),.int .u64 (msk true),.slice A ps.length c,.func (.func 304) #[] #[.pointer (some ⟨g+1+1+1,0,none⟩)],.agg #[.int .i64 (x:Int),.int .i64 (((x:Int)+1) % (ps.length:Int)),.int .i64 (ptAt ps x).1,.int .i64 (ptAt ps x).2,.int .i64 (ptAt ps ((x+1) % ps.length)).1,.int .i64 (ptAt ps ((x+1) % ps.length)).2],undef,undef,undef,undef,undef,undef,undef,undef,undef,undef,undef,undef,undef,undef,undef,undef,undef,undef,undef,undef,undef,undef,undef,undef,undef,undef,undef],defers:=[] })
  (fun x a' _ X Y row hs hg hr=>by obtain ⟨Bx,es',h1,hT,h2,h3⟩:=hs;exact ⟨Bx,es',h1,tp_ownFrom _ _ t (fun _:Unit=>es') HMB.out () X Y row hT hg hr,blk_own Bx 301 (fun (_:Unit)=>#[.int .i64 (x:Int),.int .i64 (((x:Int)+1) % (ps.length:Int)),.int .i64 (ptAt ps x).1,.int .i64 (ptAt ps x).2,.int .i64 (ptAt ps ((x+1) % ps.length)).1,.int .i64 (ptAt ps ((x+1) % ps.length)).2]) () X Y row h2 hg (fun r e=>(hr r e).2),h3⟩)
  ?assign ?body ?done ?stop
 case assign =>
  rintro l pre x W K ⟨⟨⟨⟨T1,P1⟩,S1⟩,O1,N1⟩,hB1,hT1⟩ hK
  have hlt:g+1+1<W.heap.size:=N1.lt
  unfold encE
  gi_wp2
  have hEW:∀ k,Also P (g+1+1+1) k→k<W.heap.size:=fun k hk=>Nat.lt_of_lt_of_le (HPE.out k hk) hB1.size
  refine hK _ _ ((KeepsOthers.alloc _ _).from _) (KeepP.of_below (bA) hEW) ⟨⟨⟨⟨T1.alloc _,P1.alloc _⟩,S1.alloc _⟩,O1.alloc _,N1.alloc _⟩,hB1.trans (KeepP.of_below (bA) hEW),hT1.step (bA)⟩ ⟨W.heap.size,es++locEv pre,hlt,?_,Blk.new _ _ _,rfl⟩
  refine (hT1.add (R:=Also (More P w W4) W.heap.size) fun k hk=>?_).step (bA)
  rcases hk with hk | hk
  · exact .inl hk
  · exact .inr (by omega)
 case body =>
  rintro l pre x a' W hl _ ⟨⟨⟨⟨T1,P1⟩,S1⟩,O1,N1⟩,hB1,hT1⟩ ⟨Bx,es',hBx,hTx,bX,rfl⟩ hpl
  have hszW:W4.heap.size≤W.heap.size:=hB1.size
  have hTb:=hT1.with hTx
  clear hT1 hTx
  have hmix:Tryz.prog.follows .mixedOrders=true:=by kernel_rfl
  have t0:=T1.cell (i:=0) rfl
  have x0:=bX.cell (i:=0) rfl
  have o0:=O1.frozen 0
  have hgs:g+1+1<W.heap.size:=N1.lt
  obtain ⟨o5,ho5⟩:∃ o5,o5=(bif decide (x=0) then false else (locF (orientV ps) ps p pre).1):=⟨_,rfl⟩
  have HIN:∃ Wi,(if x=0 then Wi=W.setCell ⟨g+1,0,none⟩ (.int .u64 0) else Wi=W)∧(Blk Wi w.heap.size 193 #[.pointer (tapeA t)]∧Blk Wi (w.heap.size+1) 41 #[.int .i64 p.1,.int .i64 p.2])∧Blk Wi g 2 #[.int .i64 (orientV ps)]∧Blk Wi (g+1) 44 #[.int .u64 (msk o5)]∧Blk Wi (g+1+1) 44 #[.int .u64 (msk (locF (orientV ps) ps p pre).2)]∧Blk Wi Bx 301 #[.int .i64 (x:Int),.int .i64 (((x:Int)+1) % (ps.length:Int)),.int .i64 (ptAt ps x).1,.int .i64 (ptAt ps x).2,.int .i64 (ptAt ps ((x+1) % ps.length)).1,.int .i64 (ptAt ps ((x+1) % ps.length)).2]∧KeepP (Also P (g+1+1+1)) W Wi∧KeepsFrom W4.heap.size W Wi∧Tp Wi (Also (More P w W4) Bx) t (es++locEv pre):=by
   by_cases hx:x=0
   · refine ⟨W.setCell ⟨g+1,0,none⟩ (.int .u64 0),by rw [if_pos hx],⟨T1.far (by dsimp only;omega) _,P1.far (by dsimp only;omega) _⟩,S1.far (by dsimp only;omega) _,?_,N1.far (by dsimp only;omega) _,bX.far (by dsimp only;omega) _,KeepP.setCell HE1.out _ _ _,(KeepsOthers.setCell _ _ _).from _,hTb.set (.inl HMO.out) _ _⟩
     have h:=O1.set 0 (.int .u64 0)
     rw [ho5,decide_eq_true hx]
     exact h
   · refine ⟨W,by rw [if_neg hx],⟨T1,P1⟩,S1,?_,N1,bX,KeepP.refl _ _,KeepsFrom.refl _ _,hTb⟩
     rw [ho5,decide_eq_false hx]
     exact O1
  obtain ⟨Wi,hWi,⟨Ti,Pi⟩,Si,Oi,Ni,Xi,hKi,hFi,hTi⟩:=HIN
  have hBi:KeepP (Also P (g+1+1+1)) W4 Wi:=hB1.trans hKi
  have hsub:∀ k,Also P (g+1+1+1) k→Also (More P w W4) Bx k:=fun k hk=>by
   rcases hk with hk | hk
   · exact .inl (.inl hk)
   · subst hk;exact .inl HMV.out
  have hAl:∀ k,Also (More P w W4) Bx k→k<Wi.heap.size:=fun k hk=>by
   rcases hk with hk | hk
   · have:=HPM.out k hk;have:=hBi.size;omega
   · subst hk;exact Xi.lt
  have hpx:(es++locEv pre).length≤1000000:=by
   have:edgeN ps.length≤64:=by unfold edgeN;split <;> omega
   simp [locEv];omega
  have HNO0:=note_any (Also (More P w W4) Bx) t (es++locEv pre) 5 (x:Int) 0 Wi hAl hTi hpx (by unfold I64w;omega)
  have HNO:=hide (fun (xi:Int) (he:xi=(x:Int))=>calls_third HNO0 he)
  clear HNO0
  have HOS0:=hide (fun W5 (hM:MW W5)=>osign_any (ptAt ps x) (ptAt ps ((x+1) % ps.length)) p (HPS.out.at_ _) (HPS.out.at_ _) HP.out W5 hM)
  have hwr:=sideE_wrap ps p x
  have hsb:=sideE_bd ps p x
  have HSN:=hide (locF_snoc (orientV ps) ps p pre x)
  rw [← ho5] at HSN
  have ti:=Ti.cell (i:=0) rfl
  have xi:=Xi.cell (i:=0) rfl
  have HPOST0:Hid (∀ W8,KeepP (Also P (g+1+1+1)) Wi W8→KeepsFrom W4.heap.size Wi W8→Blk W8 w.heap.size 193 #[.pointer (tapeA t)]→Blk W8 (w.heap.size+1) 41 #[.int .i64 p.1,.int .i64 p.2]→Blk W8 g 2 #[.int .i64 (orientV ps)]→Blk W8 (g+1) 44 #[.int .u64 (msk (o5 || decide (sideE (orientV ps) ps p x<0)))]→Blk W8 (g+1+1) 44 #[.int .u64 (msk ((locF (orientV ps) ps p pre).2 || decide (sideE (orientV ps) ps p x=0)))]→Tp W8 (Also (More P w W4) Bx) t (es++locEv pre++[(5,(x:Int),0)]) →
   KeepsFrom W4.heap.size W W8∧KeepP (Also P (g+1+1+1)) W W8∧(((Blk W8 w.heap.size 193 #[.pointer (tapeA t)]∧Blk W8 (w.heap.size+1) 41 #[.int .i64 p.1,.int .i64 p.2])∧Blk W8 g 2 #[.int .i64 (orientV ps)])∧(Blk W8 (g+1) 44 #[.int .u64 (msk (locF (orientV ps) ps p (pre++[x])).1)]∧Blk W8 (g+1+1) 44 #[.int .u64 (msk (locF (orientV ps) ps p (pre++[x])).2)]))∧(KeepP (Also P (g+1+1+1)) W4 W8∧Tp W8 (More P w W4) t (es++locEv (pre++[x])))) :=
   hide fun W8 hk hf h1 h2 h3 h4 h5 h6=>⟨hFi.trans hf,hKi.trans hk,⟨⟨⟨h1,h2⟩,h3⟩,by rw [HSN.out];exact h4,by rw [HSN.out];exact h5⟩,hBi.trans hk,by
    have h7:=h6.mono (R:=More P w W4) (fun k h=>.inl h)
    rw [List.append_assoc] at h7
    rw [show locEv (pre++[x])=locEv pre++[(5,(x:Int),0)] by simp [locEv]]
    exact h7⟩
  have HCUT:Hid (x=0→Wi=W.setCell ⟨g+1,0,none⟩ (.int .u64 0))∧Hid (x≠0→Wi=W):=⟨hide fun h=>by rw [if_pos h] at hWi;exact hWi,hide fun h=>by rw [if_neg h] at hWi;exact hWi⟩
  obtain ⟨HC1,HC2⟩:=HCUT
  have HSUB:=hide hsub;have HAL:=hide hAl;have HBI:=hide hBi
  clear hWi hKi hFi HSN ho5 hsub hAl hBi hB1 hTb hTi hpx hpl hszW
  have hx:x=0∨x≠0:=by omega
  have hgw1:w.heap.size≠g+1:=by omega
  have hgw2:w.heap.size+1≠g+1:=by omega
  have hgw3:Bx≠g+1:=by omega
  rcases hx with hx | hx
  · have hxi:(x:Int)=0:=by omega
    have hWi:=HC1.out hx
    have o1:=O1.cell (i:=0) rfl
    clear hx
    clear HC1 HC2 T1 P1 S1 O1 N1 bX
    gi_wp2_with fail
    refine ⟨trivial,?_⟩
    rw [← hWi]
    have HWi:=hide hWi
    clear hWi
    refine (CallsIn.inRound l (callsIn_wide.2 (HNO.out 0 hxi.symm))).mono ?_
    rintro e W5 ⟨rfl,hkn,hmn,ht5⟩
    have hAl:=HAL.out
    have T5:=Ti.kept hkn (.inl HMT.out)
    have P5:=Pi.kept hkn (.inl HMP.out)
    have S5:=Si.kept hkn (.inl HMS.out)
    have O5:=Oi.kept hkn (.inl HMO.out)
    have N5:=Ni.kept hkn (.inl HMN.out)
    have X5:=Xi.kept hkn (.inr rfl)
    have hki:KeepP (Also P (g+1+1+1)) Wi W5:=hkn.mono HSUB.out
    have hfi:KeepsFrom W4.heap.size Wi W5:=hmn.from HMB.out
    have HPOST:=hide (fun W8 (hk:KeepP (Also P (g+1+1+1)) W5 W8) (hf:KeepsFrom W4.heap.size W5 W8)=>HPOST0.out W8 (hki.trans hk) (hfi.trans hf))
    have hb4:=HBI.out.trans hki
    have hPE5:∀ k,Also P (g+1+1+1) k→k<W5.drew.heap.size:=fun k hk=>Nat.lt_of_lt_of_le (HPE.out k hk) hb4.size
    have HOS:=hide (HOS0.out W5.drew ((HW.out.kept (HK0.out.trans (hb4.mono fun k h=>.inl h)) HG0.out).step (bl_drew (Below.refl _ _))))
    have x5:=X5.cell (i:=0) rfl
    clear hkn hmn hki hfi hb4 hAl Ti Pi Si Oi Ni Xi ti xi HPOST0 HBI HOS0 HNO HSUB HAL
    gi_wp2_with fail
    clear hxi
    refine startH 1000 (S:=fun w'=>Blk w' g 2 #[.int .i64 (orientV ps)]∧Blk w' Bx 301 #[.int .i64 (x:Int),.int .i64 (((x:Int)+1) % (ps.length:Int)),.int .i64 (ptAt ps x).1,.int .i64 (ptAt ps x).2,.int .i64 (ptAt ps ((x+1) % ps.length)).1,.int .i64 (ptAt ps ((x+1) % ps.length)).2]∧Blk w' (w.heap.size+1) 41 #[.int .i64 p.1,.int .i64 p.2]) hmix ?_
    have hS:Blk W5.drew g 2 #[.int .i64 (orientV ps)]∧Blk W5.drew Bx 301 #[.int .i64 (x:Int),.int .i64 (((x:Int)+1) % (ps.length:Int)),.int .i64 (ptAt ps x).1,.int .i64 (ptAt ps x).2,.int .i64 (ptAt ps ((x+1) % ps.length)).1,.int .i64 (ptAt ps ((x+1) % ps.length)).2]∧Blk W5.drew (w.heap.size+1) 41 #[.int .i64 p.1,.int .i64 p.2]:=⟨S5,X5,P5⟩
    refine' takeH (i:=0) (v:=_) (noDefer_of (by kernel_rfl)) rfl (by kernel_rfl) (by kernel_rfl) (by kernel_rfl) (fun _ _ _ h=>h) (by kernel_rfl) ⟨Or.inl ⟨by rfl,?hy0k1⟩,fun _=>rfl⟩ hS ?rest0k1
    case hy0k1 =>
     intro w' hSw
     obtain ⟨s1,s2,s3⟩:=hSw
     have z1:=s1.cell (i:=0) rfl
     have z2:=s2.cell (i:=2) rfl
     have z3:=s2.cell (i:=3) rfl
     have z4:=s2.cell (i:=4) rfl
     have z5:=s2.cell (i:=5) rfl
     have z6:=s3.cell (i:=0) rfl
     have z7:=s3.cell (i:=1) rfl
     go_simp
     rfl
    simp only [Act.put,getElem_toArray,getElem_cons_zero,setIfInBounds_toArray,set_cons_zero,set_cons_succ]
    refine' takeH (i:=1) (v:=_) (noDefer_of (by kernel_rfl)) rfl (by kernel_rfl) (by kernel_rfl) (by kernel_rfl) (fun _ _ _ h=>h) (by kernel_rfl) ⟨Or.inl ⟨by rfl,?hy1k2⟩,fun _=>rfl⟩ hS ?rest1k2
    case hy1k2 =>
     intro w' hSw
     go_simp
     rfl
    simp only [Act.put,getElem_toArray,getElem_cons_succ,getElem_cons_zero,setIfInBounds_toArray,set_cons_zero,set_cons_succ]
    refine' takeH (i:=2) (v:=_) (noDefer_of (by kernel_rfl)) rfl (by kernel_rfl) (by kernel_rfl) (by kernel_rfl) (fun _ _ _ h=>h) (by kernel_rfl) ⟨Or.inl ⟨by rfl,?hy2k3⟩,fun _=>rfl⟩ hS ?rest2k3
    case hy2k3 =>
     intro w' hSw
     obtain ⟨s1,s2,s3⟩:=hSw
     have z1:=s1.cell (i:=0) rfl
     have z2:=s2.cell (i:=2) rfl
     have z3:=s2.cell (i:=3) rfl
     have z4:=s2.cell (i:=4) rfl
     have z5:=s2.cell (i:=5) rfl
     have z6:=s3.cell (i:=0) rfl
     have z7:=s3.cell (i:=1) rfl
     go_simp
     rfl
    simp only [Act.put,getElem_toArray,getElem_cons_succ,getElem_cons_zero,setIfInBounds_toArray,set_cons_zero,set_cons_succ]
    refine' takeH (i:=3) (v:=_) (noDefer_of (by kernel_rfl)) rfl (by kernel_rfl) (by kernel_rfl) (by kernel_rfl) (fun _ _ _ h=>h) (by kernel_rfl) ⟨Or.inl ⟨by rfl,?hy3k4⟩,fun _=>rfl⟩ hS ?rest3k4
    case hy3k4 =>
     intro w' hSw
     go_simp
     rfl
    simp only [Act.put,getElem_toArray,getElem_cons_succ,getElem_cons_zero,setIfInBounds_toArray,set_cons_zero,set_cons_succ]
    refine' takeH (i:=4) (v:=_) (noDefer_of (by kernel_rfl)) rfl (by kernel_rfl) (by kernel_rfl) (by kernel_rfl) (fun _ _ _ h=>h) (by kernel_rfl) ⟨Or.inl ⟨by rfl,?hy4k5⟩,fun _=>rfl⟩ hS ?rest4k5
    case hy4k5 =>
     intro w' hSw
     obtain ⟨s1,s2,s3⟩:=hSw
     have z1:=s1.cell (i:=0) rfl
     have z2:=s2.cell (i:=2) rfl
     have z3:=s2.cell (i:=3) rfl
     have z4:=s2.cell (i:=4) rfl
     have z5:=s2.cell (i:=5) rfl
     have z6:=s3.cell (i:=0) rfl
     have z7:=s3.cell (i:=1) rfl
     go_simp
     rfl
    simp only [Act.put,getElem_toArray,getElem_cons_succ,getElem_cons_zero,setIfInBounds_toArray,set_cons_zero,set_cons_succ]
    refine' takeH (i:=5) (v:=_) (noDefer_of (by kernel_rfl)) rfl (by kernel_rfl) (by kernel_rfl) (by kernel_rfl) (fun _ _ _ h=>h) (by kernel_rfl) ⟨Or.inl ⟨by rfl,?hy5k6⟩,fun _=>rfl⟩ hS ?rest5k6
    case hy5k6 =>
     intro w' hSw
     obtain ⟨s1,s2,s3⟩:=hSw
     have z1:=s1.cell (i:=0) rfl
     have z2:=s2.cell (i:=2) rfl
     have z3:=s2.cell (i:=3) rfl
     have z4:=s2.cell (i:=4) rfl
     have z5:=s2.cell (i:=5) rfl
     have z6:=s3.cell (i:=0) rfl
     have z7:=s3.cell (i:=1) rfl
     go_simp
     rfl
    simp only [Act.put,getElem_toArray,getElem_cons_succ,getElem_cons_zero,setIfInBounds_toArray,set_cons_zero,set_cons_succ]
    refine oneH (i:=6) (by kernel_rfl) rfl ?_
    intro K hK
    rw [if_pos (by rfl)]
    go_simp
    refine ⟨trivial,?_⟩
    refine (CallsIn.inRound l (callsIn_wide.2 HOS.out)).mono ?_
    rintro e W6 ⟨rfl,hb6⟩
    have hS6:Blk W6 g 2 #[.int .i64 (orientV ps)]∧Blk W6 Bx 301 #[.int .i64 (x:Int),.int .i64 (((x:Int)+1) % (ps.length:Int)),.int .i64 (ptAt ps x).1,.int .i64 (ptAt ps x).2,.int .i64 (ptAt ps ((x+1) % ps.length)).1,.int .i64 (ptAt ps ((x+1) % ps.length)).2]∧Blk W6 (w.heap.size+1) 41 #[.int .i64 p.1,.int .i64 p.2]:=⟨S5.drew.step hb6,X5.drew.step hb6,P5.drew.step hb6⟩
    refine hK.out _ _ (fun _=>hS6) ?_
    clear hK K
    (try simp only [Act.put,getElem_toArray,getElem_cons_succ,getElem_cons_zero,setIfInBounds_toArray,set_cons_zero,set_cons_succ])
    refine' takeH (i:=7) (v:=_) (noDefer_of (by kernel_rfl)) rfl (by kernel_rfl) (by kernel_rfl) (by kernel_rfl) (fun _ _ _ h=>h) (by kernel_rfl) ⟨Or.inl ⟨by rfl,?hy7k7⟩,fun _=>rfl⟩ hS6 ?rest7k7
    case hy7k7 =>
     intro w' hSw
     go_simp
     rfl
    simp only [Act.put,getElem_toArray,getElem_cons_succ,getElem_cons_zero,setIfInBounds_toArray,set_cons_zero,set_cons_succ]
    refine' takeH (i:=8) (v:=_) (noDefer_of (by kernel_rfl)) rfl (by kernel_rfl) (by kernel_rfl) (by kernel_rfl) (fun _ _ _ h=>h) (by kernel_rfl) ⟨Or.inl ⟨by rfl,?hy8k8⟩,fun _=>rfl⟩ hS6 ?rest8k8
    case hy8k8 =>
     intro w' hSw
     go_simp
     rfl
    simp only [Act.put,getElem_toArray,getElem_cons_succ,getElem_cons_zero,setIfInBounds_toArray,set_cons_zero,set_cons_succ]
    refine doneH (by kernel_rfl) ?_ _
    have T6:=T5.drew.step hb6
    have O6:=O5.drew.step hb6
    have N6:=N5.drew.step hb6
    have hk6:KeepP (Also P (g+1+1+1)) W5 W6:=(KeepP.drew _ _).trans (KeepP.of_below hb6 hPE5)
    have t6:Tp W6 (Also (More P w W4) Bx) t (es++locEv pre++[(5,(x:Int),0)]):=ht5.drew.step hb6
    have hf6:KeepsFrom W4.heap.size W5 W6:=(KeepsFrom.of_below (bl_drew (Below.refl _ _))).trans (KeepsFrom.of_below hb6)
    obtain ⟨s6,x6,p6⟩:=hS6
    have HHB:=hide hb6
    clear hS hb6 hwr x5 HOS ht5 hPE5
    generalize sideE (orientV ps) ps p x=sd at *
    have HNE:=hide (negative_any sd (by omega) (by omega) W6.drew)
    have hor:=msk_or o5 (decide (sd<0))
    generalize hm7:(o5 || decide (sd<0))=o7 at *
    gi_wp2_with fail
    refine startH 4 (S:=fun w'=>Blk w' (g+1) 44 #[.int .u64 (msk o5)]) hmix ?_
    have hS:Blk W6.drew (g+1) 44 #[.int .u64 (msk o5)]:=O6
    refine' takeH (i:=0) (v:=_) (noDefer_of (by kernel_rfl)) rfl (by kernel_rfl) (by kernel_rfl) (by kernel_rfl) (fun _ _ _ h=>h) (by kernel_rfl) ⟨Or.inl ⟨by rfl,?hy0k9⟩,fun _=>rfl⟩ hS ?rest0k9
    case hy0k9 =>
     intro w' hSw
     have z1:=hSw.cell (i:=0) rfl
     go_simp
     rfl
    simp only [Act.put,getElem_toArray,getElem_cons_zero,setIfInBounds_toArray,set_cons_zero,set_cons_succ]
    refine' takeH (i:=1) (v:=_) (noDefer_of (by kernel_rfl)) rfl (by kernel_rfl) (by kernel_rfl) (by kernel_rfl) (fun _ _ _ h=>h) (by kernel_rfl) ⟨Or.inl ⟨by rfl,?hy1k10⟩,fun _=>rfl⟩ hS ?rest1k10
    case hy1k10 =>
     intro w' hSw
     go_simp
     rfl
    simp only [Act.put,getElem_toArray,getElem_cons_succ,getElem_cons_zero,setIfInBounds_toArray,set_cons_zero,set_cons_succ]
    refine oneH (i:=2) (by kernel_rfl) rfl ?_
    intro K hK
    rw [if_pos (by rfl)]
    go_simp
    refine ⟨trivial,?_⟩
    refine (CallsIn.inRound l (callsIn_wide.2 HNE.out)).mono ?_
    rintro e w' ⟨rfl,rfl⟩
    refine hK.out _ _ (fun _=>hS) ?_
    clear hK K
    (try simp only [Act.put,getElem_toArray,getElem_cons_succ,getElem_cons_zero,setIfInBounds_toArray,set_cons_zero,set_cons_succ])
    refine' takeH (i:=3) (v:=_) (noDefer_of (by kernel_rfl)) rfl (by kernel_rfl) (by kernel_rfl) (by kernel_rfl) (fun _ _ _ h=>h) (by kernel_rfl) ⟨Or.inl ⟨by rfl,?hy3k11⟩,fun _=>rfl⟩ hS ?rest3k11
    case hy3k11 =>
     intro w' hSw
     go_simp
     rfl
    simp only [Act.put,getElem_toArray,getElem_cons_succ,getElem_cons_zero,setIfInBounds_toArray,set_cons_zero,set_cons_succ]
    have c7:W6.drew.cell? ⟨g+1,0,none⟩=some (.int .u64 (msk o5)):=hS.cell (i:=0) rfl
    have f7:=hS.frozen 0
    refine oneH (i:=4) (by kernel_rfl) rfl ?_
    intro K hK
    rw [if_pos (by rfl)]
    go_simp
    refine hK.out _ _ (fun h=>absurd rfl h) ?_
    clear hK K
    refine doneH (by kernel_rfl) ?_ _
    obtain ⟨W7,hW7⟩:∃ W7,W7=(W6.setCell ⟨g+1,0,none⟩ (.int .u64 (msk o7))).drew:=⟨_,rfl⟩
    rw [← hW7]
    have O7:Blk W7 (g+1) 44 #[.int .u64 (msk o7)]:=by rw [hW7];exact (O6.set 0 _).drew
    have N7:Blk W7 (g+1+1) 44 #[.int .u64 (msk (locF (orientV ps) ps p pre).2)]:=by rw [hW7];exact (N6.far (by dsimp only;omega) _).drew
    have T7:Blk W7 w.heap.size 193 #[.pointer (tapeA t)]:=by rw [hW7];exact (T6.far (by dsimp only;omega) _).drew
    have P7:Blk W7 (w.heap.size+1) 41 #[.int .i64 p.1,.int .i64 p.2]:=by rw [hW7];exact (p6.far (by dsimp only;omega) _).drew
    have S7:Blk W7 g 2 #[.int .i64 (orientV ps)]:=by rw [hW7];exact (s6.far (by dsimp only;omega) _).drew
    have hk7:KeepP (Also P (g+1+1+1)) W5 W7:=by rw [hW7];exact hk6.trans ((KeepP.setCell HE1.out _ _ _).trans (KeepP.drew _ _))
    have t7:Tp W7 (Also (More P w W4) Bx) t (es++locEv pre++[(5,(x:Int),0)]):=by rw [hW7];exact (t6.set (.inl HMO.out) _ _).drew
    have hf7:KeepsFrom W4.heap.size W5 W7:=by rw [hW7];exact hf6.trans (((KeepsOthers.setCell _ _ _).from _).trans (KeepsFrom.of_below (bl_drew (Below.refl _ _))))
    have HW7:=hide hW7
    clear hW7 hS hor c7 f7 hk6 hf6 HNE O6 N6 T6 p6 s6 x6 t6
    obtain ⟨hz1,hz2⟩:=wrap_u64_zero hsb.1 hsb.2
    have HZE:=hide (zero_any (IntKind.u64.wrap sd) hz1.1 hz1.2 W7.drew)
    rw [hz2] at HZE
    have hor:=msk_or (locF (orientV ps) ps p pre).2 (decide (sd=0))
    generalize hm8:((locF (orientV ps) ps p pre).2 || decide (sd=0))=n8 at *
    generalize hn5:(locF (orientV ps) ps p pre).2=n5 at *
    clear hz1 hz2
    gi_wp2_with fail
    refine startH 5 (S:=fun w'=>Blk w' (g+1+1) 44 #[.int .u64 (msk n5)]) hmix ?_
    have hS:Blk W7.drew (g+1+1) 44 #[.int .u64 (msk n5)]:=N7
    refine' takeH (i:=0) (v:=_) (noDefer_of (by kernel_rfl)) rfl (by kernel_rfl) (by kernel_rfl) (by kernel_rfl) (fun _ _ _ h=>h) (by kernel_rfl) ⟨Or.inl ⟨by rfl,?hy0k12⟩,fun _=>rfl⟩ hS ?rest0k12
    case hy0k12 =>
     intro w' hSw
     have z1:=hSw.cell (i:=0) rfl
     go_simp
     rfl
    simp only [Act.put,getElem_toArray,getElem_cons_zero,setIfInBounds_toArray,set_cons_zero,set_cons_succ]
    refine' takeH (i:=1) (v:=_) (noDefer_of (by kernel_rfl)) rfl (by kernel_rfl) (by kernel_rfl) (by kernel_rfl) (fun _ _ _ h=>h) (by kernel_rfl) ⟨Or.inl ⟨by rfl,?hy1k13⟩,fun _=>rfl⟩ hS ?rest1k13
    case hy1k13 =>
     intro w' hSw
     go_simp
     rfl
    simp only [Act.put,getElem_toArray,getElem_cons_succ,getElem_cons_zero,setIfInBounds_toArray,set_cons_zero,set_cons_succ]
    refine' takeH (i:=2) (v:=_) (noDefer_of (by kernel_rfl)) rfl (by kernel_rfl) (by kernel_rfl) (by kernel_rfl) (fun _ _ _ h=>h) (by kernel_rfl) ⟨Or.inl ⟨by rfl,?hy2k14⟩,fun _=>rfl⟩ hS ?rest2k14
    case hy2k14 =>
     intro w' hSw
     go_simp
     rfl
    simp only [Act.put,getElem_toArray,getElem_cons_succ,getElem_cons_zero,setIfInBounds_toArray,set_cons_zero,set_cons_succ]
    refine oneH (i:=3) (by kernel_rfl) rfl ?_
    intro K hK
    rw [if_pos (by rfl)]
    go_simp
    refine ⟨trivial,?_⟩
    refine (CallsIn.inRound l (callsIn_wide.2 HZE.out)).mono ?_
    rintro e w' ⟨rfl,rfl⟩
    refine hK.out _ _ (fun _=>hS) ?_
    clear hK K
    (try simp only [Act.put,getElem_toArray,getElem_cons_succ,getElem_cons_zero,setIfInBounds_toArray,set_cons_zero,set_cons_succ])
    refine' takeH (i:=4) (v:=_) (noDefer_of (by kernel_rfl)) rfl (by kernel_rfl) (by kernel_rfl) (by kernel_rfl) (fun _ _ _ h=>h) (by kernel_rfl) ⟨Or.inl ⟨by rfl,?hy4k15⟩,fun _=>rfl⟩ hS ?rest4k15
    case hy4k15 =>
     intro w' hSw
     go_simp
     rfl
    simp only [Act.put,getElem_toArray,getElem_cons_succ,getElem_cons_zero,setIfInBounds_toArray,set_cons_zero,set_cons_succ]
    have c7:W7.drew.cell? ⟨g+1+1,0,none⟩=some (.int .u64 (msk n5)):=hS.cell (i:=0) rfl
    have f7:=hS.frozen 0
    refine oneH (i:=5) (by kernel_rfl) rfl ?_
    intro K hK
    rw [if_pos (by rfl)]
    go_simp
    refine hK.out _ _ (fun h=>absurd rfl h) ?_
    clear hK K
    refine doneH (by kernel_rfl) ?_ _
    have HF:=hide (HPOST.out (W7.setCell ⟨g+1+1,0,none⟩ (.int .u64 (msk n8))).drew (hk7.trans ((KeepP.setCell HE2.out _ _ _).trans (KeepP.drew _ _))) (hf7.trans (((KeepsOthers.setCell _ _ _).from _).trans (KeepsFrom.of_below (bl_drew (Below.refl _ _))))) (T7.far (by dsimp only;omega) _).drew (P7.far (by dsimp only;omega) _).drew (S7.far (by dsimp only;omega) _).drew (O7.far (by dsimp only;omega) _).drew (N7.set 0 _).drew (t7.set (.inl HMN.out) _ _).drew)
    clear t7 hk7 hf7
    gi_wp2_with fail
    exact HF.out
  · have hxi:¬ (x:Int)=0:=by omega
    have hWi:=HC2.out hx
    subst hWi
    clear hx
    clear HC1 HC2 T1 P1 S1 O1 N1 bX
    gi_wp2_with fail
    refine ⟨trivial,?_⟩
    refine (CallsIn.inRound l (callsIn_wide.2 (HNO.out _ rfl))).mono ?_
    rintro e W5 ⟨rfl,hkn,hmn,ht5⟩
    have hAl:=HAL.out
    have T5:=Ti.kept hkn (.inl HMT.out)
    have P5:=Pi.kept hkn (.inl HMP.out)
    have S5:=Si.kept hkn (.inl HMS.out)
    have O5:=Oi.kept hkn (.inl HMO.out)
    have N5:=Ni.kept hkn (.inl HMN.out)
    have X5:=Xi.kept hkn (.inr rfl)
    have hki:KeepP (Also P (g+1+1+1)) Wi W5:=hkn.mono HSUB.out
    have hfi:KeepsFrom W4.heap.size Wi W5:=hmn.from HMB.out
    have HPOST:=hide (fun W8 (hk:KeepP (Also P (g+1+1+1)) W5 W8) (hf:KeepsFrom W4.heap.size W5 W8)=>HPOST0.out W8 (hki.trans hk) (hfi.trans hf))
    have hb4:=HBI.out.trans hki
    have hPE5:∀ k,Also P (g+1+1+1) k→k<W5.drew.heap.size:=fun k hk=>Nat.lt_of_lt_of_le (HPE.out k hk) hb4.size
    have HOS:=hide (HOS0.out W5.drew ((HW.out.kept (HK0.out.trans (hb4.mono fun k h=>.inl h)) HG0.out).step (bl_drew (Below.refl _ _))))
    have x5:=X5.cell (i:=0) rfl
    clear hkn hmn hki hfi hb4 hAl Ti Pi Si Oi Ni Xi ti xi HPOST0 HBI HOS0 HNO HSUB HAL
    gi_wp2_with fail
    clear hxi
    refine startH 1000 (S:=fun w'=>Blk w' g 2 #[.int .i64 (orientV ps)]∧Blk w' Bx 301 #[.int .i64 (x:Int),.int .i64 (((x:Int)+1) % (ps.length:Int)),.int .i64 (ptAt ps x).1,.int .i64 (ptAt ps x).2,.int .i64 (ptAt ps ((x+1) % ps.length)).1,.int .i64 (ptAt ps ((x+1) % ps.length)).2]∧Blk w' (w.heap.size+1) 41 #[.int .i64 p.1,.int .i64 p.2]) hmix ?_
    have hS:Blk W5.drew g 2 #[.int .i64 (orientV ps)]∧Blk W5.drew Bx 301 #[.int .i64 (x:Int),.int .i64 (((x:Int)+1) % (ps.length:Int)),.int .i64 (ptAt ps x).1,.int .i64 (ptAt ps x).2,.int .i64 (ptAt ps ((x+1) % ps.length)).1,.int .i64 (ptAt ps ((x+1) % ps.length)).2]∧Blk W5.drew (w.heap.size+1) 41 #[.int .i64 p.1,.int .i64 p.2]:=⟨S5,X5,P5⟩
    refine' takeH (i:=0) (v:=_) (noDefer_of (by kernel_rfl)) rfl (by kernel_rfl) (by kernel_rfl) (by kernel_rfl) (fun _ _ _ h=>h) (by kernel_rfl) ⟨Or.inl ⟨by rfl,?hyB0k1⟩,fun _=>rfl⟩ hS ?restB0k1
    case hyB0k1 =>
     intro w' hSw
     obtain ⟨s1,s2,s3⟩:=hSw
     have z1:=s1.cell (i:=0) rfl
     have z2:=s2.cell (i:=2) rfl
     have z3:=s2.cell (i:=3) rfl
     have z4:=s2.cell (i:=4) rfl
     have z5:=s2.cell (i:=5) rfl
     have z6:=s3.cell (i:=0) rfl
     have z7:=s3.cell (i:=1) rfl
     go_simp
     rfl
    simp only [Act.put,getElem_toArray,getElem_cons_zero,setIfInBounds_toArray,set_cons_zero,set_cons_succ]
    refine' takeH (i:=1) (v:=_) (noDefer_of (by kernel_rfl)) rfl (by kernel_rfl) (by kernel_rfl) (by kernel_rfl) (fun _ _ _ h=>h) (by kernel_rfl) ⟨Or.inl ⟨by rfl,?hyB1k2⟩,fun _=>rfl⟩ hS ?restB1k2
    case hyB1k2 =>
     intro w' hSw
     go_simp
     rfl
    simp only [Act.put,getElem_toArray,getElem_cons_succ,getElem_cons_zero,setIfInBounds_toArray,set_cons_zero,set_cons_succ]
    refine' takeH (i:=2) (v:=_) (noDefer_of (by kernel_rfl)) rfl (by kernel_rfl) (by kernel_rfl) (by kernel_rfl) (fun _ _ _ h=>h) (by kernel_rfl) ⟨Or.inl ⟨by rfl,?hyB2k3⟩,fun _=>rfl⟩ hS ?restB2k3
    case hyB2k3 =>
     intro w' hSw
     obtain ⟨s1,s2,s3⟩:=hSw
     have z1:=s1.cell (i:=0) rfl
     have z2:=s2.cell (i:=2) rfl
     have z3:=s2.cell (i:=3) rfl
     have z4:=s2.cell (i:=4) rfl
     have z5:=s2.cell (i:=5) rfl
     have z6:=s3.cell (i:=0) rfl
     have z7:=s3.cell (i:=1) rfl
     go_simp
     rfl
    simp only [Act.put,getElem_toArray,getElem_cons_succ,getElem_cons_zero,setIfInBounds_toArray,set_cons_zero,set_cons_succ]
    refine' takeH (i:=3) (v:=_) (noDefer_of (by kernel_rfl)) rfl (by kernel_rfl) (by kernel_rfl) (by kernel_rfl) (fun _ _ _ h=>h) (by kernel_rfl) ⟨Or.inl ⟨by rfl,?hyB3k4⟩,fun _=>rfl⟩ hS ?restB3k4
    case hyB3k4 =>
     intro w' hSw
     go_simp
     rfl
    simp only [Act.put,getElem_toArray,getElem_cons_succ,getElem_cons_zero,setIfInBounds_toArray,set_cons_zero,set_cons_succ]
    refine' takeH (i:=4) (v:=_) (noDefer_of (by kernel_rfl)) rfl (by kernel_rfl) (by kernel_rfl) (by kernel_rfl) (fun _ _ _ h=>h) (by kernel_rfl) ⟨Or.inl ⟨by rfl,?hyB4k5⟩,fun _=>rfl⟩ hS ?restB4k5
    case hyB4k5 =>
     intro w' hSw
     obtain ⟨s1,s2,s3⟩:=hSw
     have z1:=s1.cell (i:=0) rfl
     have z2:=s2.cell (i:=2) rfl
     have z3:=s2.cell (i:=3) rfl
     have z4:=s2.cell (i:=4) rfl
     have z5:=s2.cell (i:=5) rfl
     have z6:=s3.cell (i:=0) rfl
     have z7:=s3.cell (i:=1) rfl
     go_simp
     rfl
    simp only [Act.put,getElem_toArray,getElem_cons_succ,getElem_cons_zero,setIfInBounds_toArray,set_cons_zero,set_cons_succ]
    refine' takeH (i:=5) (v:=_) (noDefer_of (by kernel_rfl)) rfl (by kernel_rfl) (by kernel_rfl) (by kernel_rfl) (fun _ _ _ h=>h) (by kernel_rfl) ⟨Or.inl ⟨by rfl,?hyB5k6⟩,fun _=>rfl⟩ hS ?restB5k6
    case hyB5k6 =>
     intro w' hSw
     obtain ⟨s1,s2,s3⟩:=hSw
     have z1:=s1.cell (i:=0) rfl
     have z2:=s2.cell (i:=2) rfl
     have z3:=s2.cell (i:=3) rfl
     have z4:=s2.cell (i:=4) rfl
     have z5:=s2.cell (i:=5) rfl
     have z6:=s3.cell (i:=0) rfl
     have z7:=s3.cell (i:=1) rfl
     go_simp
     rfl
    simp only [Act.put,getElem_toArray,getElem_cons_succ,getElem_cons_zero,setIfInBounds_toArray,set_cons_zero,set_cons_succ]
    refine oneH (i:=6) (by kernel_rfl) rfl ?_
    intro K hK
    rw [if_pos (by rfl)]
    go_simp
    refine ⟨trivial,?_⟩
    refine (CallsIn.inRound l (callsIn_wide.2 HOS.out)).mono ?_
    rintro e W6 ⟨rfl,hb6⟩
    have hS6:Blk W6 g 2 #[.int .i64 (orientV ps)]∧Blk W6 Bx 301 #[.int .i64 (x:Int),.int .i64 (((x:Int)+1) % (ps.length:Int)),.int .i64 (ptAt ps x).1,.int .i64 (ptAt ps x).2,.int .i64 (ptAt ps ((x+1) % ps.length)).1,.int .i64 (ptAt ps ((x+1) % ps.length)).2]∧Blk W6 (w.heap.size+1) 41 #[.int .i64 p.1,.int .i64 p.2]:=⟨S5.drew.step hb6,X5.drew.step hb6,P5.drew.step hb6⟩
    refine hK.out _ _ (fun _=>hS6) ?_
    clear hK K
    (try simp only [Act.put,getElem_toArray,getElem_cons_succ,getElem_cons_zero,setIfInBounds_toArray,set_cons_zero,set_cons_succ])
    refine' takeH (i:=7) (v:=_) (noDefer_of (by kernel_rfl)) rfl (by kernel_rfl) (by kernel_rfl) (by kernel_rfl) (fun _ _ _ h=>h) (by kernel_rfl) ⟨Or.inl ⟨by rfl,?hyB7k7⟩,fun _=>rfl⟩ hS6 ?restB7k7
    case hyB7k7 =>
     intro w' hSw
     go_simp
     rfl
    simp only [Act.put,getElem_toArray,getElem_cons_succ,getElem_cons_zero,setIfInBounds_toArray,set_cons_zero,set_cons_succ]
    refine' takeH (i:=8) (v:=_) (noDefer_of (by kernel_rfl)) rfl (by kernel_rfl) (by kernel_rfl) (by kernel_rfl) (fun _ _ _ h=>h) (by kernel_rfl) ⟨Or.inl ⟨by rfl,?hyB8k8⟩,fun _=>rfl⟩ hS6 ?restB8k8
    case hyB8k8 =>
     intro w' hSw
     go_simp
     rfl
    simp only [Act.put,getElem_toArray,getElem_cons_succ,getElem_cons_zero,setIfInBounds_toArray,set_cons_zero,set_cons_succ]
    refine doneH (by kernel_rfl) ?_ _
    have T6:=T5.drew.step hb6
    have O6:=O5.drew.step hb6
    have N6:=N5.drew.step hb6
    have hk6:KeepP (Also P (g+1+1+1)) W5 W6:=(KeepP.drew _ _).trans (KeepP.of_below hb6 hPE5)
    have t6:Tp W6 (Also (More P w W4) Bx) t (es++locEv pre++[(5,(x:Int),0)]):=ht5.drew.step hb6
    have hf6:KeepsFrom W4.heap.size W5 W6:=(KeepsFrom.of_below (bl_drew (Below.refl _ _))).trans (KeepsFrom.of_below hb6)
    obtain ⟨s6,x6,p6⟩:=hS6
    have HHB:=hide hb6
    clear hS hb6 hwr x5 HOS ht5 hPE5
    generalize sideE (orientV ps) ps p x=sd at *
    have HNE:=hide (negative_any sd (by omega) (by omega) W6.drew)
    have hor:=msk_or o5 (decide (sd<0))
    generalize hm7:(o5 || decide (sd<0))=o7 at *
    gi_wp2_with fail
    refine startH 4 (S:=fun w'=>Blk w' (g+1) 44 #[.int .u64 (msk o5)]) hmix ?_
    have hS:Blk W6.drew (g+1) 44 #[.int .u64 (msk o5)]:=O6
    refine' takeH (i:=0) (v:=_) (noDefer_of (by kernel_rfl)) rfl (by kernel_rfl) (by kernel_rfl) (by kernel_rfl) (fun _ _ _ h=>h) (by kernel_rfl) ⟨Or.inl ⟨by rfl,?hyB0k9⟩,fun _=>rfl⟩ hS ?restB0k9
    case hyB0k9 =>
     intro w' hSw
     have z1:=hSw.cell (i:=0) rfl
     go_simp
     rfl
    simp only [Act.put,getElem_toArray,getElem_cons_zero,setIfInBounds_toArray,set_cons_zero,set_cons_succ]
    refine' takeH (i:=1) (v:=_) (noDefer_of (by kernel_rfl)) rfl (by kernel_rfl) (by kernel_rfl) (by kernel_rfl) (fun _ _ _ h=>h) (by kernel_rfl) ⟨Or.inl ⟨by rfl,?hyB1k10⟩,fun _=>rfl⟩ hS ?restB1k10
    case hyB1k10 =>
     intro w' hSw
     go_simp
     rfl
    simp only [Act.put,getElem_toArray,getElem_cons_succ,getElem_cons_zero,setIfInBounds_toArray,set_cons_zero,set_cons_succ]
    refine oneH (i:=2) (by kernel_rfl) rfl ?_
    intro K hK
    rw [if_pos (by rfl)]
    go_simp
    refine ⟨trivial,?_⟩
    refine (CallsIn.inRound l (callsIn_wide.2 HNE.out)).mono ?_
    rintro e w' ⟨rfl,rfl⟩
    refine hK.out _ _ (fun _=>hS) ?_
    clear hK K
    (try simp only [Act.put,getElem_toArray,getElem_cons_succ,getElem_cons_zero,setIfInBounds_toArray,set_cons_zero,set_cons_succ])
    refine' takeH (i:=3) (v:=_) (noDefer_of (by kernel_rfl)) rfl (by kernel_rfl) (by kernel_rfl) (by kernel_rfl) (fun _ _ _ h=>h) (by kernel_rfl) ⟨Or.inl ⟨by rfl,?hyB3k11⟩,fun _=>rfl⟩ hS ?restB3k11
    case hyB3k11 =>
     intro w' hSw
     go_simp
     rfl
    simp only [Act.put,getElem_toArray,getElem_cons_succ,getElem_cons_zero,setIfInBounds_toArray,set_cons_zero,set_cons_succ]
    have c7:W6.drew.cell? ⟨g+1,0,none⟩=some (.int .u64 (msk o5)):=hS.cell (i:=0) rfl
    have f7:=hS.frozen 0
    refine oneH (i:=4) (by kernel_rfl) rfl ?_
    intro K hK
    rw [if_pos (by rfl)]
    go_simp
    refine hK.out _ _ (fun h=>absurd rfl h) ?_
    clear hK K
    refine doneH (by kernel_rfl) ?_ _
    obtain ⟨W7,hW7⟩:∃ W7,W7=(W6.setCell ⟨g+1,0,none⟩ (.int .u64 (msk o7))).drew:=⟨_,rfl⟩
    rw [← hW7]
    have O7:Blk W7 (g+1) 44 #[.int .u64 (msk o7)]:=by rw [hW7];exact (O6.set 0 _).drew
    have N7:Blk W7 (g+1+1) 44 #[.int .u64 (msk (locF (orientV ps) ps p pre).2)]:=by rw [hW7];exact (N6.far (by dsimp only;omega) _).drew
    have T7:Blk W7 w.heap.size 193 #[.pointer (tapeA t)]:=by rw [hW7];exact (T6.far (by dsimp only;omega) _).drew
    have P7:Blk W7 (w.heap.size+1) 41 #[.int .i64 p.1,.int .i64 p.2]:=by rw [hW7];exact (p6.far (by dsimp only;omega) _).drew
    have S7:Blk W7 g 2 #[.int .i64 (orientV ps)]:=by rw [hW7];exact (s6.far (by dsimp only;omega) _).drew
    have hk7:KeepP (Also P (g+1+1+1)) W5 W7:=by rw [hW7];exact hk6.trans ((KeepP.setCell HE1.out _ _ _).trans (KeepP.drew _ _))
    have t7:Tp W7 (Also (More P w W4) Bx) t (es++locEv pre++[(5,(x:Int),0)]):=by rw [hW7];exact (t6.set (.inl HMO.out) _ _).drew
    have hf7:KeepsFrom W4.heap.size W5 W7:=by rw [hW7];exact hf6.trans (((KeepsOthers.setCell _ _ _).from _).trans (KeepsFrom.of_below (bl_drew (Below.refl _ _))))
    have HW7:=hide hW7
    clear hW7 hS hor c7 f7 hk6 hf6 HNE O6 N6 T6 p6 s6 x6 t6
    obtain ⟨hz1,hz2⟩:=wrap_u64_zero hsb.1 hsb.2
    have HZE:=hide (zero_any (IntKind.u64.wrap sd) hz1.1 hz1.2 W7.drew)
    rw [hz2] at HZE
    have hor:=msk_or (locF (orientV ps) ps p pre).2 (decide (sd=0))
    generalize hm8:((locF (orientV ps) ps p pre).2 || decide (sd=0))=n8 at *
    generalize hn5:(locF (orientV ps) ps p pre).2=n5 at *
    clear hz1 hz2
    gi_wp2_with fail
    refine startH 5 (S:=fun w'=>Blk w' (g+1+1) 44 #[.int .u64 (msk n5)]) hmix ?_
    have hS:Blk W7.drew (g+1+1) 44 #[.int .u64 (msk n5)]:=N7
    refine' takeH (i:=0) (v:=_) (noDefer_of (by kernel_rfl)) rfl (by kernel_rfl) (by kernel_rfl) (by kernel_rfl) (fun _ _ _ h=>h) (by kernel_rfl) ⟨Or.inl ⟨by rfl,?hyB0k12⟩,fun _=>rfl⟩ hS ?restB0k12
    case hyB0k12 =>
     intro w' hSw
     have z1:=hSw.cell (i:=0) rfl
     go_simp
     rfl
    simp only [Act.put,getElem_toArray,getElem_cons_zero,setIfInBounds_toArray,set_cons_zero,set_cons_succ]
    refine' takeH (i:=1) (v:=_) (noDefer_of (by kernel_rfl)) rfl (by kernel_rfl) (by kernel_rfl) (by kernel_rfl) (fun _ _ _ h=>h) (by kernel_rfl) ⟨Or.inl ⟨by rfl,?hyB1k13⟩,fun _=>rfl⟩ hS ?restB1k13
    case hyB1k13 =>
     intro w' hSw
     go_simp
     rfl
    simp only [Act.put,getElem_toArray,getElem_cons_succ,getElem_cons_zero,setIfInBounds_toArray,set_cons_zero,set_cons_succ]
    refine' takeH (i:=2) (v:=_) (noDefer_of (by kernel_rfl)) rfl (by kernel_rfl) (by kernel_rfl) (by kernel_rfl) (fun _ _ _ h=>h) (by kernel_rfl) ⟨Or.inl ⟨by rfl,?hyB2k14⟩,fun _=>rfl⟩ hS ?restB2k14
    case hyB2k14 =>
     intro w' hSw
     go_simp
     rfl
    simp only [Act.put,getElem_toArray,getElem_cons_succ,getElem_cons_zero,setIfInBounds_toArray,set_cons_zero,set_cons_succ]
    refine oneH (i:=3) (by kernel_rfl) rfl ?_
    intro K hK
    rw [if_pos (by rfl)]
    go_simp
    refine ⟨trivial,?_⟩
    refine (CallsIn.inRound l (callsIn_wide.2 HZE.out)).mono ?_
    rintro e w' ⟨rfl,rfl⟩
    refine hK.out _ _ (fun _=>hS) ?_
    clear hK K
    (try simp only [Act.put,getElem_toArray,getElem_cons_succ,getElem_cons_zero,setIfInBounds_toArray,set_cons_zero,set_cons_succ])
    refine' takeH (i:=4) (v:=_) (noDefer_of (by kernel_rfl)) rfl (by kernel_rfl) (by kernel_rfl) (by kernel_rfl) (fun _ _ _ h=>h) (by kernel_rfl) ⟨Or.inl ⟨by rfl,?hyB4k15⟩,fun _=>rfl⟩ hS ?restB4k15
    case hyB4k15 =>
     intro w' hSw
     go_simp
     rfl
    simp only [Act.put,getElem_toArray,getElem_cons_succ,getElem_cons_zero,setIfInBounds_toArray,set_cons_zero,set_cons_succ]
    have c7:W7.drew.cell? ⟨g+1+1,0,none⟩=some (.int .u64 (msk n5)):=hS.cell (i:=0) rfl
    have f7:=hS.frozen 0
    refine oneH (i:=5) (by kernel_rfl) rfl ?_
    intro K hK
    rw [if_pos (by rfl)]
    go_simp
    refine hK.out _ _ (fun h=>absurd rfl h) ?_
    clear hK K
    refine doneH (by kernel_rfl) ?_ _
    have HF:=hide (HPOST.out (W7.setCell ⟨g+1+1,0,none⟩ (.int .u64 (msk n8))).drew (hk7.trans ((KeepP.setCell HE2.out _ _ _).trans (KeepP.drew _ _))) (hf7.trans (((KeepsOthers.setCell _ _ _).from _).trans (KeepsFrom.of_below (bl_drew (Below.refl _ _))))) (T7.far (by dsimp only;omega) _).drew (P7.far (by dsimp only;omega) _).drew (S7.far (by dsimp only;omega) _).drew (O7.far (by dsimp only;omega) _).drew (N7.set 0 _).drew (t7.set (.inl HMN.out) _ _).drew)
    clear t7 hk7 hf7
    gi_wp2_with fail
    exact HF.out
 case done =>
  rintro D zs W hD rfl ⟨⟨⟨⟨T1,P1⟩,S1⟩,O1,N1⟩,hB1,hT1⟩ hK
  have o1:=O1.cell (i:=0) rfl
  have n1:=N1.cell (i:=0) rfl
  have hB2:KeepP P w W:=HK0.out.trans (hB1.mono fun k h=>.inl h)
  have HMS:=hide (msign_any (locF (orientV ps) ps p (List.range (edgeN ps.length))).1 (locF (orientV ps) ps p (List.range (edgeN ps.length))).2 W (HW.out.kept hB2 HG0.out).1)
  gi_wp2_with fail
  refine ⟨trivial,?_⟩
  refine (callsIn_wide.2 HMS.out).mono ?_
  rintro e w' ⟨rfl,m,rfl⟩
  gi_wp2
  refine ⟨by simp,.inl ⟨_,_,rfl,run_takeDeferred hK,?_⟩⟩
  refine ⟨_,results_tmp rfl _ _ _,rfl,(hB2.trans (KeepP.of_below (bl_drewN (Below.refl W.heap.size W) m) fun k hk=>?_)).trans (KeepP.putObj _ (fun h=>?_) _),?_⟩
  · exact Nat.lt_of_lt_of_le (HPE.out k (.inl hk)) hB1.size
  · have:=HPE.out D (.inl h);omega
  · have h7:=(hT1.mono (R:=P) fun k h=>.inl h).step (bl_drewN (Below.refl W.heap.size W) m)
    exact h7.putObj (fun u hu=>Nat.lt_of_lt_of_le (HMB.out u hu) hD) hK rfl _
 case stop =>
  rintro D c pre W _ _ h _
  exact h.elim
end
end Go.Proofs.YthnenedoblncjaaGreatDoor
