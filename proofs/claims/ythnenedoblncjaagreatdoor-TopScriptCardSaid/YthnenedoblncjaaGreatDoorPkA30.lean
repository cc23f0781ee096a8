/- Valid RefEvents16 EvAppend -/
import Derived.BigQuiet
import Derived.Deep.QuietTactic
import Derived.Lib.SliceRun
import Derived.Scope
import Derived.Test.YthnenedoblncjaaGreatDoorPkA29
set_option maxRecDepth 1000000
set_option maxHeartbeats 8000000
namespace Go.Proofs.YthnenedoblncjaaGreatDoor
open Go.Proofs.Tryz
open List (getElem_toArray getElem_cons_succ getElem_cons_zero setIfInBounds_toArray set_cons_zero set_cons_succ)
section
open Go.RowKit Go.Shelf
attribute [local go_sem] Oper.semAt_some
section
variable {F:Fence}{n:Nat}{P:Program}{b:Frame}{a:Act}{k:List Item}{cs:List Frame}{w:World}{Q:Exit->Act->World->Prop}
theorem Wz{c:Code}:step P (lone (b.atR a (.code (.scope c)::k)) cs w)=.next (lone (b.atR a (.code c::.inScope c::k)) cs w) :=
 step_lone_go (by simp [stepG,stepG.exec,Frame.atR])
theorem KW{c:Code}:step P (lone (b.atR a (.inScope c::k)) cs w)=.next (lone (b.atR a k) cs w) :=
 step_lone_go (by simp [stepG,stepG.exec,Frame.atR])
theorem Vk{c:Code}(h:c.wpIn F n P (Exit.noGoto Q) a w):(Code.scope c).wpIn F n P Q a w:=by
 intro b k cs hro hb hr;have h0:(lone (b.atR a (.code (.scope c)::k)) cs w).fenced P F:=fenced_calm hb hr rfl;obtain ⟨e,a₁,w₁,hq,harr⟩:=h b (.inScope c::k) cs hro hb hr;cases e with
 | normal=>exact ⟨.normal,a₁,w₁,hq,.head h0 Wz (StepsIn.trans harr (.one (fenced_calm hb hr rfl) KW))⟩
 | exit id =>
   have hx:exitTo id (.inScope c::k)=exitTo id k:=by simp [exitTo]
   exact ⟨.exit id,a₁,w₁,hq,fun k' hk=>.head h0 Wz (harr.1 k' (by rw [hx];exact hk)),
    fun hr' hk=>let ⟨k₁,h1,h2⟩:=harr.2 hr' (by rw [hx];exact hk);⟨k₁,h1,.head h0 Wz h2⟩⟩
 | goto l=>exact hq.elim
 | ret=>exact ⟨_,a₁,w₁,hq,.of_steps (.one h0 Wz) harr⟩
 | panic ch=>exact ⟨_,a₁,w₁,hq,.of_steps (.one h0 Wz) harr⟩
 | outgrown=>exact ⟨_,a₁,w₁,hq,.of_steps (.one h0 Wz) harr⟩
end
theorem M5(a b:Bool):bits BinOp.and IntKind.u64 (ZE a) (ZE b)=ZE (a && b):=by cases a <;> cases b <;> decide
theorem RN(a:Bool):bits BinOp.xor IntKind.u64 IntKind.u64.max (ZE a)=ZE (!a):=by cases a <;> decide
def G5(s:Int)(ps:List Pt)(i j:Nat):Bool :=
 decide (j=i) || decide (j=(i+1) % ps.length) || decide ((ZM (Z5 ps i) (Z5 ps ((i+1) % ps.length)) (Z5 ps j)).sign=s)
def WB(s:Int)(ps:List Pt)(i:Nat)(v:Bool)(k:Nat):Bool:=(List.range k).foldl (fun v j=>v && G5 s ps i j) v
theorem Oa(s:Int)(ps:List Pt)(i:Nat)(v:Bool)(k:Nat):WB s ps i v (k+1)=(WB s ps i v k && G5 s ps i k):=by
 simp [WB,List.range_succ]
def vF(s:Int)(ps:List Pt)(pre:List Nat):Bool:=pre.foldl (fun v i=>WB s ps i v ps.length) (!decide (s=0))
theorem Bb(s:Int)(ps:List Pt)(pre:List Nat)(i:Nat):vF s ps (pre++[i])=WB s ps i (vF s ps pre) ps.length:=by simp [vF]
def YB(ps:List Pt):Bool:=vF (Z4 ps) ps (List.range (Y6 ps.length))
theorem Jt{a b:Int}(h0:0<=a)(h1:a<18446744073709551616)(h2:0<=b)(h3:b<18446744073709551616):0<=bits BinOp.xor IntKind.u64 a b/\bits BinOp.xor IntKind.u64 a b<18446744073709551616/\(bits BinOp.xor IntKind.u64 a b=0 ↔ a=b):=by
 rw [u64_xor a b h0 h1 h2 h3];have hx:a.toNat ^^^ b.toNat<2 ^ 64:=Nat.xor_lt_two_pow (by omega) (by omega);refine ⟨by omega,by omega,?_⟩;constructor
 · intro h;have h':a.toNat ^^^ b.toNat=0:=(by omega);have e:b.toNat=a.toNat ^^^ (a.toNat ^^^ b.toNat):=(by rw [<- Nat.xor_assoc,Nat.xor_self,Nat.zero_xor]);rw [h',Nat.xor_zero] at e;omega
 · rintro rfl;simp
theorem JF(a b:Int)(h0:0<=a)(h1:a<18446744073709551616)(h2:0<=b)(h3:b<18446744073709551616)(w:World):Calls prog 260 #[.int .u64 a,.int .u64 b] w fun e w'=>e=.returned (.int .u64 (ZE (decide (a=b))))/\w=w':=by
 obtain ⟨x0,x1,x2⟩:=Jt h0 h1 h2 h3;have HZ:=hide (Ut (bits BinOp.xor IntKind.u64 a b) x0 x1 w);have e:decide (bits BinOp.xor IntKind.u64 a b=0)=decide (a=b):=by simp only [x2]
 rw [e] at HZ;clear e x2 x0 x1;go_enter func260,ntmps260;go_wp2_with fail;refine HZ.out.mono ?_;rintro e w' ⟨rfl,rfl⟩;go_wp2;go_ret;exact ⟨rfl,rfl⟩
theorem VQ{x y:Int}(hx:x=-1\/x=0\/x=1)(hy:y=-1\/y=0\/y=1):(0<=IntKind.u64.wrap x/\IntKind.u64.wrap x<18446744073709551616)/\decide (IntKind.u64.wrap x=IntKind.u64.wrap y)=decide (x=y):=by
 rcases hx with rfl|rfl|rfl <;> rcases hy with rfl|rfl|rfl <;> decide
theorem Cb(x y:Int)(hx:x=-1\/x=0\/x=1)(hy:y=-1\/y=0\/y=1)(w:World):Calls prog 260 #[.int .u64 (IntKind.u64.wrap x),.int .u64 (IntKind.u64.wrap y)] w fun e w'=>e=.returned (.int .u64 (ZE (decide (x=y))))/\w=w':=by
 have h:=JF _ _ (VQ hx hx).1.1 (VQ hx hx).1.2 (VQ hy hy).1.1 (VQ hy hy).1.2 w;rw [(VQ hx hy).2] at h;exact h
theorem WC(ps:List Pt):Z4 ps=-1\/Z4 ps=0\/Z4 ps=1:=by
 rw [<- TM];exact Xq _
def JG(x nx k:Nat):List Ev:=((List.range k).filter fun j=>!(decide (j=x) || decide (j=nx))).map fun (j:Nat)=>(4,(x:Int),(j:Int))
theorem Fg{x nx k:Nat}(h:k=x\/k=nx):JG x nx (k+1)=JG x nx k:=by
 unfold JG;rw [List.range_succ,List.filter_append];have e:(!(decide (k=x) || decide (k=nx)))=false:=by rcases h with h|h <;> simp [h]
 simp [List.filter,e]
theorem r9{x nx k:Nat}(h:k≠x)(h':k≠nx):JG x nx (k+1)=JG x nx k++[(4,(x:Int),(k:Int))]:=by
 unfold JG;rw [List.range_succ,List.filter_append];simp [List.filter,h,h']
theorem LC(x nx k:Nat):(JG x nx k).length<=k:=by
 unfold JG;rw [List.length_map];exact Nat.le_trans (List.length_filter_le _ _) (by simp)
def Qu(n:Nat)(pre:List Nat):List Ev:=pre.flatMap fun x=>JG x ((x+1) % n) n
theorem wL(n:Nat)(pre:List Nat)(x:Nat):Qu n (pre++[x])=Qu n pre++JG x ((x+1) % n) n:=by simp [Qu]
theorem QW(n:Nat):∀ pre:List Nat,(Qu n pre).length<=pre.length*n
 | []=>by simp [Qu]
 | x::r=>by
   have h1:=QW n r;have h2:=LC x ((x+1) % n) n;have e:Qu n (x::r)=JG x ((x+1) % n) n++Qu n r:=(by simp [Qu]);rw [e,List.length_append,List.length_cons,Nat.add_mul];omega
theorem Kv(P:Nat->Prop)(t:Option (Nat × Nat))(es:List Ev)(ps:List Pt)(hps:Ub ps)(hn:ps.length<=10000)(A:Option Addr)(c:Nat)(w:World)(hP:∀ k,P k->k<w.heap.size)(hg0:P 8)(hs:UU w P A (Zg ps))(hw:MW w)(ht:Tp w P t es)(hl:es.length<=900000):
 Calls prog 192 #[.pointer (Zz t),.slice A ps.length c] w fun e w'=>e=.returned (.int .u64 (ZE (YB ps)))/\Z8 P w w'/\Tp w' P t (es++Qu ps.length (List.range (Y6 ps.length))):=by
 obtain ⟨w0,hw0⟩:=eE ((w.alloc (.cells #[.pointer (Zz t)] 193)).alloc (.cells #[.slice A ps.length c] 36));have hb0:=bF hw0;have T0:Z6 w0 w.heap.size 193 #[.pointer (Zz t)]:=by rw [hw0];exact (Z6.new _ _ _).alloc _
 have P0:Z6 w0 (w.heap.size+1) 36 #[.slice A ps.length c]:=by rw [hw0];exact Z6.new2 _ _ _ _
 have EA:=hide (Tt ps hps hn A c w0 (((hs.sl hP).below hb0).more hb0.size) (hw.step hb0));have v0:w0.cell? ⟨w.heap.size+1,0,none⟩=some (.slice A ps.length c):=P0.q0 rfl;refine (callsIn_wide (n:=6)).1 ?_;refine callsIn_of_wp_marks func192 rfl trivial ?_ rfl;simp only [ntmps192,List.size_toArray,List.length_cons,List.length_nil,Nat.reduceAdd,Nat.reduceSub,Array.replicate_succ,Array.replicate_zero,List.push_toArray,List.append_toArray,List.nil_append,List.cons_append];gi_wp2_with fail;rw [<- hw0];have HW0:=hide hw0;clear hw0;refine ⟨trivial,?_⟩;refine (callsIn_wide.2 EA.out).mono ?_;rintro e w1 ⟨rfl,hb1⟩;obtain ⟨g,hg⟩:=eE w1.heap.size;have P1:=P0.step hb1;have v1:w1.cell? ⟨w.heap.size+1,0,none⟩=some (.slice A ps.length c):=P1.q0 rfl;have lD:=hide (Ut (IntKind.u64.wrap (Z4 ps)) (VQ (WC ps) (WC ps)).1.1 (VQ (WC ps) (WC ps)).1.2 (w1.alloc (.cells #[.int .i64 (Z4 ps)] 2)));rw [(VE (show -1<=Z4 ps by rcases WC ps with h|h|h <;> omega) (by rcases WC ps with h|h|h <;> omega)).2] at lD;have hnot:=RN (decide (Z4 ps=0));have v2:((w1.alloc (.cells #[.int .i64 (Z4 ps)] 2)).alloc (.cells #[.int .u64 (ZE (!decide (Z4 ps=0)))] 44)).cell? ⟨w.heap.size+1,0,none⟩=some (.slice A ps.length c):=((P1.alloc _).alloc _).q0 rfl;gi_wp2_with fail;refine ⟨trivial,?_⟩;refine (callsIn_wide.2 lD.out).mono ?_;rintro e w2' ⟨rfl,rfl⟩;gi_wp2_with fail;refine ⟨trivial,?_⟩;refine (callsIn_wide.2 (JE _ A ps.length c rfl _)).mono ?_;rintro e w3 ⟨rfl,rfl⟩;have hs2:((w1.alloc (.cells #[.int .i64 (Z4 ps)] 2)).alloc (.cells #[.int .u64 (ZE (!decide (Z4 ps=0)))] 44)).heap.size=g+1+1:=by simp [hg]
 rw [hs2];have G0:Z6 (((w1.alloc (.cells #[.int .i64 (Z4 ps)] 2)).alloc (.cells #[.int .u64 (ZE (!decide (Z4 ps=0)))] 44)).alloc (.cells #[.slice A ps.length c] 36)) g 2 #[.int .i64 (Z4 ps)]:=by rw [hg];exact ((Z6.new _ _ _).alloc _).alloc _
 have G1:Z6 (((w1.alloc (.cells #[.int .i64 (Z4 ps)] 2)).alloc (.cells #[.int .u64 (ZE (!decide (Z4 ps=0)))] 44)).alloc (.cells #[.slice A ps.length c] 36)) (g+1) 44 #[.int .u64 (ZE (!decide (Z4 ps=0)))]:=by rw [hg];exact (Z6.new2 _ _ _ _).alloc _
 have G2:Z6 (((w1.alloc (.cells #[.int .i64 (Z4 ps)] 2)).alloc (.cells #[.int .u64 (ZE (!decide (Z4 ps=0)))] 44)).alloc (.cells #[.slice A ps.length c] 36)) (g+1+1) 36 #[.slice A ps.length c]:=by
  have h2:=Z6.new ((w1.alloc (.cells #[.int .i64 (Z4 ps)] 2)).alloc (.cells #[.int .u64 (ZE (!decide (Z4 ps=0)))] 44)) 36 #[.slice A ps.length c];rw [hs2] at h2;exact h2
 have hb4:Below w1.heap.size w1 (((w1.alloc (.cells #[.int .i64 (Z4 ps)] 2)).alloc (.cells #[.int .u64 (ZE (!decide (Z4 ps=0)))] 44)).alloc (.cells #[.slice A ps.length c] 36)):=Z7 (Z7 (bA) _) _;have hs4:(((w1.alloc (.cells #[.int .i64 (Z4 ps)] 2)).alloc (.cells #[.int .u64 (ZE (!decide (Z4 ps=0)))] 44)).alloc (.cells #[.slice A ps.length c] 36)).heap.size=g+3:=by simp [hg]
 obtain ⟨W4,sS⟩:∃ W4,(((w1.alloc (.cells #[.int .i64 (Z4 ps)] 2)).alloc (.cells #[.int .u64 (ZE (!decide (Z4 ps=0)))] 44)).alloc (.cells #[.slice A ps.length c] 36))=W4:=⟨_,rfl⟩;rw [sS] at G0 G1 G2 hb4 hs4;gi_wp2_with fail;rw [<- hg];have hB4:Below w.heap.size w W4:=Z9 (Z9 hb0 hb1) hb4;have hgw:w.heap.size+2<=g:=by
  have h1:=hb1.size;have h2:w0.heap.size=w.heap.size+2:=by rw [HW0.out];simp
  omega
 have T4:=(T0.step hb1).step hb4;have P4:=(P0.step hb1).step hb4;have Jv:=hide hps;have HW:=hide hw;have HSL:=hide (hs.kept (Z8.of_below hB4 hP))
 have MZ:∀ k,Also P (g+1+1) k->k<W4.heap.size:=fun k hk=>by
  rcases hk with hk|hk
  · exact Nat.lt_of_lt_of_le (hP k hk) hB4.size
  · omega
 have KF:=ht.more hB4;have hmb:∀ u,t=some u->u.2<W4.heap.size:=fun u hu=>Nat.lt_of_lt_of_le (ht.iE u hu) hB4.size;have hE1:¬ Also P (g+1+1) (g+1):=by
  rintro (h|h)
  · have:=hP _ h;omega
  · omega
 have hM:∀ k,w.heap.size<=k->k<g+3->More P w W4 k:=fun k h1 h2=>.inr ⟨h1,by omega⟩;have qw:=hide (hM w.heap.size (by omega) (by omega));have qp:=hide (hM (w.heap.size+1) (by omega) (by omega));have jF:=hide (hM g (by omega) (by omega));have wX:=hide (hM (g+1) (by omega) (by omega));have HMV:=hide (hM (g+1+1) (by omega) (by omega));have hK0:Z8 P w W4:=Z8.of_below hB4 hP;have Cn:∀ k,Also P (g+1+1) k->k<W4.heap.size/\k<W4.heap.size:=fun k hk=>⟨MZ k hk,MZ k hk⟩;have hPM:∀ k,More P w W4 k->k<W4.heap.size:=Yw hP hB4;have qh:=hide hE1;have MP:=hide MZ;have Bo:=hide hmb;have HT4:=hide KF;have NI:=hide hK0;have kZ:=hide Cn;have aJ:=hide hPM;have K6:=hide hg0;have zru:=hide (show ∀ k,P k->k<W4.heap.size from fun k hk=>MZ k (.inl hk));clear hE1 MZ hmb KF hM hK0 Cn hPM hg0 ht hP;clear sS hg hs2 lD EA T0 P0 P1 v0 v1 v2 hps hw hs hb0 hb1 hb4 HW0 hnot hB4
 refine wpIn_rangeFunc_ownH rfl (by omega) (gf:=304) (lb:=#[.pointer (some ⟨g+1+1,0,none⟩)]) rfl trivial (enters_of func304 (by kernel_rfl) rfl)
  (NV 5 (by omega) (g+1+1) (Also P (g+1+1)) ps A c W4 MP.out (.inr rfl) G2 (HSL.out.mono fun k h=>.inl h)) Z8.trans (fun W l o o' hl _ _ _=>Z8.putObj o' (fun h=>by have:=MP.out _ h;omega) W) (Below.refl _ _) (fun _=>rfl)
  (fun pre W=>(((Z6 W w.heap.size 193 #[.pointer (Zz t)]/\Z6 W (w.heap.size+1) 36 #[.slice A ps.length c])/\Z6 W g 2 #[.int .i64 (Z4 ps)])/\Z6 W (g+1) 44 #[.int .u64 (ZE (vF (Z4 ps) ps pre))])/\(Z8 (Also P (g+1+1)) W4 W/\Tp W (More P w W4) t (es++Qu ps.length pre)))
  (fun _ _ _=>False)
  (OwnFrom.and (OwnFrom.and (OwnFrom.and (OwnFrom.and (Own.from (XH _ _ _) _) (Own.from (XH _ _ _) _)) (Own.from (XH _ _ _) _)) (Own.from (XH _ _ _) _)) (OwnFrom.and (UC kZ.out) (WE _ (More P w W4) t (fun pre=>es++Qu ps.length pre) Bo.out)))
  (fun _ _ _ _ _ hs _ _=>hs)
  ⟨⟨⟨⟨T4,P4⟩,G0⟩,G1⟩,Z8.refl _ _,by simpa [Qu] using HT4.out⟩
  (fun x a' W=>∃ Bx es',g+1<Bx/\Tp W (Also (More P w W4) Bx) t es'/\Z6 W Bx 301 #[.int .i64 (x:Int),.int .i64 (((x:Int)+1) % (ps.length:Int)),.int .i64 (Z5 ps x).1,.int .i64 (Z5 ps x).2,.int .i64 (Z5 ps ((x+1) % ps.length)).1,.int .i64 (Z5 ps ((x+1) % ps.length)).2]/\a'={ tmps:=#[.pointer (Zz t),.slice A ps.length c,.pointer (some ⟨w.heap.size,0,none⟩),.pointer (some ⟨w.heap.size+1,0,none⟩),.int .u64 0,.pointer (some ⟨g,0,none⟩),.pointer (some ⟨g+1,0,none⟩),.pointer (some ⟨Bx,0,none⟩),undef,undef,.slice A ps.length c,.int .i64 (Z4 ps),.int .i64 (Z4 ps),.int .u64 (IntKind.u64.wrap (Z4 ps)),.int .u64 (ZE (decide (Z4 ps=0))),.int .u64 (ZE (!decide (Z4 ps=0))),.slice A ps.length c,.func (.func 304) #[] #[.pointer (some ⟨g+1+1,0,none⟩)],.agg #[.int .i64 (x:Int),.int .i64 (((x:Int)+1) % (ps.length:Int)),.int .i64 (Z5 ps x).1,.int .i64 (Z5 ps x).2,.int .i64 (Z5 ps ((x+1) % ps.length)).1,.int .i64 (Z5 ps ((x+1) % ps.length)).2],undef,undef,undef,undef,undef,undef,undef,undef,undef,undef,undef,undef,undef,undef,undef,undef,undef,undef,undef,undef,undef,undef,undef,undef,undef,undef,undef,undef,undef,undef,undef,undef,undef,undef,undef,undef],defers:=[] })
  (fun x a' _ X Y row hs hg hr=>by obtain ⟨Bx,es',h1,hT,h2,h3⟩:=hs;exact ⟨Bx,es',h1,WE _ _ t (fun _:Unit=>es') Bo.out () X Y row hT hg hr,XH Bx 301 (fun (_:Unit)=>#[.int .i64 (x:Int),.int .i64 (((x:Int)+1) % (ps.length:Int)),.int .i64 (Z5 ps x).1,.int .i64 (Z5 ps x).2,.int .i64 (Z5 ps ((x+1) % ps.length)).1,.int .i64 (Z5 ps ((x+1) % ps.length)).2]) () X Y row h2 hg (fun r e=>(hr r e).2),h3⟩)
  ?assign ?body ?done ?stop
 case assign =>
  rintro l pre x W K ⟨⟨⟨⟨T1,P1⟩,S1⟩,O1⟩,hB1,hT1⟩ hK;have hlt:g+1<W.heap.size:=O1.lt;unfold rZ;gi_wp2;have jS:∀ k,Also P (g+1+1) k->k<W.heap.size:=fun k hk=>Nat.lt_of_lt_of_le (MP.out k hk) hB1.size;refine hK _ _ ((KeepsOthers.alloc _ _).from _) (Z8.of_below (bA) jS) ⟨⟨⟨⟨T1.alloc _,P1.alloc _⟩,S1.alloc _⟩,O1.alloc _⟩,hB1.trans (Z8.of_below (bA) jS),hT1.step (bA)⟩ ⟨W.heap.size,es++Qu ps.length pre,hlt,?_,Z6.new _ _ _,rfl⟩;refine (hT1.add (R:=Also (More P w W4) W.heap.size) fun k hk=>?_).step (bA);rcases hk with hk|hk
  · exact .inl hk
  · exact .inr (by omega)
 case body =>
  rintro l pre x a' W hl _ ⟨⟨⟨⟨T1,P1⟩,S1⟩,O1⟩,hB1,hT1⟩ ⟨Bx,es',hBx,hTx,bX,rfl⟩ hpl;have hszW:W4.heap.size<=W.heap.size:=hB1.size;have yF:=hT1.with hTx
  clear hT1 hTx;have zoz:3<=ps.length/\ps.length<=64:=by
   unfold Y6 at hpl;split at hpl
   · assumption
   · omega
  obtain ⟨h3,h64⟩:=zoz;have V5:prog.follows .mixedOrders=true:=by kernel_rfl
  obtain ⟨b,off,rfl,hb⟩:=VL (HSL.out.sl zru.out) (by omega);obtain ⟨nx,hnx⟩:=eE ((x+1) % ps.length);have ztn:((x:Int)+1) % (ps.length:Int)=(nx:Int):=by rw [hnx];rfl
  obtain ⟨vp,hvp⟩:=eE (vF (Z4 ps) ps pre);have Bw:=hide (Bb (Z4 ps) ps pre x);rw [<- hvp] at Bw O1;rw [ztn,<- hnx] at bX ⊢;have UQ:Hid (∀ k,G5 (Z4 ps) ps x k=(decide (k=x) || decide (k=nx) || decide ((ZM (Z5 ps x) (Z5 ps nx) (Z5 ps k)).sign=Z4 ps))):=hide fun k=>by rw [hnx];rfl
  have v1:W.cell? ⟨w.heap.size+1,0,none⟩=some (.slice (some ⟨b,off,none⟩) ps.length c):=P1.q0 rfl;have hpre:(es++Qu ps.length pre).length<=910000:=by
   have h1:=QW ps.length pre;have h2:pre.length<=64:=(by unfold Y6 at hpl;split at hpl <;> omega);have h3:pre.length*ps.length<=64*64:=Nat.mul_le_mul h2 h64;rw [List.length_append];omega
  have HVE:=hide (wL ps.length pre x);rw [<- hnx] at HVE;have zor:=hide hpre;have qA:=hide yF;clear hpl hnx ztn hvp hpre yF;gi_wp2_with fail;refine Vk ?_;refine wpIn_seq_k (fun K hK=>wpIn_label ?_);refine hK _ _ ?_;clear hK K;gi_wp2_with fail
  gi_loopw [21] (fun i wr=>∃ k:Nat,k<=ps.length/\i=.int .i64 k/\(Z6 wr w.heap.size 193 #[.pointer (Zz t)]/\Z6 wr (w.heap.size+1) 36 #[.slice (some ⟨b,off,none⟩) ps.length c]/\Z6 wr g 2 #[.int .i64 (Z4 ps)])/\Z6 wr (g+1) 44 #[.int .u64 (ZE (WB (Z4 ps) ps x vp k))]/\Z6 wr Bx 301 #[.int .i64 (x:Int),.int .i64 (nx:Int),.int .i64 (Z5 ps x).1,.int .i64 (Z5 ps x).2,.int .i64 (Z5 ps nx).1,.int .i64 (Z5 ps nx).2]/\Z8 (Also P (g+1+1)) W wr/\KeepsFrom W4.heap.size W wr/\Tp wr (Also (More P w W4) Bx) t (es++Qu ps.length pre++JG x nx k))
   (fun i _=>ps.length - (intOf i).toNat)
  case atStart=>exact ⟨0,Nat.zero_le _,rfl,⟨T1,P1,S1⟩,O1,bX,Z8.refl _ _,KeepsFrom.refl _ _,by simpa [JG] using qA.out⟩
  case round =>
   clear T1 P1 S1 O1 bX v1;obtain ⟨k,hk,rfl,⟨Tr,Pr,Sr⟩,Or,Xr,hkr,hfr,htr⟩:=hrel;have hEr:∀ k,Also P (g+1+1) k->k<wr.heap.size:=fun k hk=>by have:=MP.out k hk;have:=hkr.size;omega
   by_cases hlt:k<ps.length
   · have Sv:((k:Nat):Int)<((ps.length:Nat):Int):=(by omega);have hsr:=(HSL.out.kept ((hB1.trans hkr).mono fun k h=>.inl h)).sl zru.out;obtain ⟨a0,a1⟩:=X8 hsr hlt;obtain ⟨vk,hvk⟩:=eE (WB (Z4 ps) ps x vp k);have aQ:=hide (Oa (Z4 ps) ps x vp k);rw [<- hvk] at aQ Or;obtain ⟨w9,xw⟩:∃ w9,wr.alloc (.cells #[.int .i64 (Z5 ps k).1,.int .i64 (Z5 ps k).2] 41)=w9:=⟨_,rfl⟩;have T9:Z6 w9 w.heap.size 193 #[.pointer (Zz t)]:=(by rw [<- xw];exact Tr.alloc _);have P9:Z6 w9 (w.heap.size+1) 36 #[.slice (some ⟨b,off,none⟩) ps.length c]:=(by rw [<- xw];exact Pr.alloc _);have S9:Z6 w9 g 2 #[.int .i64 (Z4 ps)]:=(by rw [<- xw];exact Sr.alloc _);have O9:Z6 w9 (g+1) 44 #[.int .u64 (ZE vk)]:=(by rw [<- xw];exact Or.alloc _);have X9:Z6 w9 Bx 301 #[.int .i64 (x:Int),.int .i64 (nx:Int),.int .i64 (Z5 ps x).1,.int .i64 (Z5 ps x).2,.int .i64 (Z5 ps nx).1,.int .i64 (Z5 ps nx).2]:=(by rw [<- xw];exact Xr.alloc _);have B9:Z6 w9 wr.heap.size 41 #[.int .i64 (Z5 ps k).1,.int .i64 (Z5 ps k).2]:=(by rw [<- xw];exact Z6.new _ _ _);have bY:Z8 (Also P (g+1+1)) W w9:=(by rw [<- xw];exact hkr.trans (Z8.of_below (bA) hEr));have hf9:KeepsFrom W4.heap.size W w9:=(by rw [<- xw];exact hfr.trans (KeepsFrom.of_below (bA)));have e0:w9.cell? ⟨Bx,0,none⟩=some (.int .i64 (x:Int)):=X9.q0 rfl;have e1:w9.cell? ⟨Bx,1,none⟩=some (.int .i64 (nx:Int)):=X9.q1 rfl;have t9:w9.cell? ⟨w.heap.size,0,none⟩=some (.pointer (Zz t)):=T9.q0 rfl;have ht9:Tp w9 (Also (Also (More P w W4) Bx) wr.heap.size) t (es++Qu ps.length pre++JG x nx k):=by
      rw [<- xw];refine (htr.add fun j hj=>?_).step (bA);rcases hj with hj|hj
      · exact .inl hj
      · exact .inr (by omega)
     clear hvk hsr Tr Pr Sr Or Xr hkr hfr htr
     by_cases hkx:k=x
     · have hki:(k:Int)=(x:Int):=(by omega);have HO:WB (Z4 ps) ps x vp (k+1)=vk:=(by rw [aQ.out,UQ.out,decide_eq_true hkx];simp);have bf:=O9;rw [<- HO] at bf;have CQ:=ht9.mono (R:=Also (More P w W4) Bx) fun j h=>.inl h;rw [<- Fg (x:=x) (nx:=nx) (k:=k) (.inl hkx)] at CQ;have Uv:=hide (show (Z6 w9 w.heap.size 193 #[.pointer (Zz t)]/\Z6 w9 (w.heap.size+1) 36 #[.slice (some ⟨b,off,none⟩) ps.length c]/\Z6 w9 g 2 #[.int .i64 (Z4 ps)])/\Z6 w9 (g+1) 44 #[.int .u64 (ZE (WB (Z4 ps) ps x vp (k+1)))]/\Z6 w9 Bx 301 #[.int .i64 (x:Int),.int .i64 (nx:Int),.int .i64 (Z5 ps x).1,.int .i64 (Z5 ps x).2,.int .i64 (Z5 ps nx).1,.int .i64 (Z5 ps nx).2]/\Z8 (Also P (g+1+1)) W w9/\KeepsFrom W4.heap.size W w9/\Tp w9 (Also (More P w W4) Bx) t (es++Qu ps.length pre++JG x nx (k+1)) from ⟨⟨T9,P9,S9⟩,bf,X9,bY,hf9,CQ⟩);clear bf HO CQ T9 P9 S9 O9 X9 B9 bY hf9 ht9 aQ UQ;rw [hkx] at xw a0 a1;gi_wp2_with fail;go_roundw
       case rel=>exact ⟨k+1,by omega,by go_num,Uv.out⟩
       case measure=>simp [intOf];omega
     · have hki:¬ (k:Int)=(x:Int):=by omega
       by_cases hkn:k=nx
       · have ztf:(k:Int)=(nx:Int):=(by omega);have HO:WB (Z4 ps) ps x vp (k+1)=vk:=(by rw [aQ.out,UQ.out,decide_eq_true hkn];simp);have bf:=O9;rw [<- HO] at bf;have CQ:=ht9.mono (R:=Also (More P w W4) Bx) fun j h=>.inl h;rw [<- Fg (x:=x) (nx:=nx) (k:=k) (.inr hkn)] at CQ;have Uv:=hide (show (Z6 w9 w.heap.size 193 #[.pointer (Zz t)]/\Z6 w9 (w.heap.size+1) 36 #[.slice (some ⟨b,off,none⟩) ps.length c]/\Z6 w9 g 2 #[.int .i64 (Z4 ps)])/\Z6 w9 (g+1) 44 #[.int .u64 (ZE (WB (Z4 ps) ps x vp (k+1)))]/\Z6 w9 Bx 301 #[.int .i64 (x:Int),.int .i64 (nx:Int),.int .i64 (Z5 ps x).1,.int .i64 (Z5 ps x).2,.int .i64 (Z5 ps nx).1,.int .i64 (Z5 ps nx).2]/\Z8 (Also P (g+1+1)) W w9/\KeepsFrom W4.heap.size W w9/\Tp w9 (Also (More P w W4) Bx) t (es++Qu ps.length pre++JG x nx (k+1)) from ⟨⟨T9,P9,S9⟩,bf,X9,bY,hf9,CQ⟩);clear bf HO CQ T9 P9 S9 O9 X9 B9 bY hf9 ht9 aQ UQ;rw [hkn] at xw a0 a1;gi_wp2_with fail;go_roundw
         case rel=>exact ⟨k+1,by omega,by go_num,Uv.out⟩
         case measure=>simp [intOf];omega
       · have ztf:¬ (k:Int)=(nx:Int):=(by omega);obtain ⟨os,hos⟩:=eE ((ZM (Z5 ps x) (Z5 ps nx) (Z5 ps k)).sign);have hO:WB (Z4 ps) ps x vp (k+1)=(vk && decide (os=Z4 ps)):=(by rw [aQ.out,UQ.out,hos,decide_eq_false hkx,decide_eq_false hkn];simp);have Qx:=hide (r9 hkx hkn)
         have Wu:=hide (fun (W8:World) (h1:(Z6 W8 w.heap.size 193 #[.pointer (Zz t)]/\Z6 W8 (w.heap.size+1) 36 #[.slice (some ⟨b,off,none⟩) ps.length c]/\Z6 W8 g 2 #[.int .i64 (Z4 ps)])) (h2:Z6 W8 (g+1) 44 #[.int .u64 (ZE (vk && decide (os=Z4 ps)))]) (h3:Z6 W8 Bx 301 #[.int .i64 (x:Int),.int .i64 (nx:Int),.int .i64 (Z5 ps x).1,.int .i64 (Z5 ps x).2,.int .i64 (Z5 ps nx).1,.int .i64 (Z5 ps nx).2]) (h4:Z8 (Also P (g+1+1)) W W8) (h5:KeepsFrom W4.heap.size W W8) (h6:Tp W8 (Also (Also (More P w W4) Bx) wr.heap.size) t (es++Qu ps.length pre++JG x nx k++[(4,(x:Int),(k:Int))])) =>
          (show (Z6 W8 w.heap.size 193 #[.pointer (Zz t)]/\Z6 W8 (w.heap.size+1) 36 #[.slice (some ⟨b,off,none⟩) ps.length c]/\Z6 W8 g 2 #[.int .i64 (Z4 ps)])/\Z6 W8 (g+1) 44 #[.int .u64 (ZE (WB (Z4 ps) ps x vp (k+1)))]/\Z6 W8 Bx 301 #[.int .i64 (x:Int),.int .i64 (nx:Int),.int .i64 (Z5 ps x).1,.int .i64 (Z5 ps x).2,.int .i64 (Z5 ps nx).1,.int .i64 (Z5 ps nx).2]/\Z8 (Also P (g+1+1)) W W8/\KeepsFrom W4.heap.size W W8/\Tp W8 (Also (More P w W4) Bx) t (es++Qu ps.length pre++JG x nx (k+1)) from ⟨h1,by rw [hO];exact h2,h3,h4,h5,by rw [Qx.out,<- List.append_assoc];exact h6.mono fun j h=>.inl h⟩))
         have Eu:os=-1\/os=0\/os=1:=by rw [hos];exact Xq _
         have wZ:∀ j,Also (Also (More P w W4) Bx) wr.heap.size j->j<w9.heap.size:=fun j hj=>by
          rcases hj with (hj|hj)|hj
          · have:=aJ.out j hj;have:=bY.size;omega
          · subst hj;exact X9.lt
          · subst hj;exact B9.lt
         have Ua:=hide (fun w9 (hM:MW w9)=>U9 (Z5 ps x) (Z5 ps nx) (Z5 ps k) (Jv.out.at_ _) (Jv.out.at_ _) (Jv.out.at_ _) w9 hM);rw [<- hos] at Ua;have hle:(es++Qu ps.length pre++JG x nx k).length<=1000000:=by
          have:=LC x nx k;have:=zor.out;rw [List.length_append];omega
         have Td:=hide (Vy (Also (Also (More P w W4) Bx) wr.heap.size) t (es++Qu ps.length pre++JG x nx k) 4 (x:Int) (k:Int) w9 wZ ht9 hle (by unfold QB;omega));have hNK:Z8 (Also P (g+1+1)) W w9:=bY;have HNK:=hide hNK;have jG:=hide hf9;clear hO hos wZ hle hNK bY hf9 ht9 aQ UQ Qx;gi_wp2_with fail
         case roundEnd =>
          rename_i h0
          exfalso
          simp at h0;omega
         clear hkx hkn hki ztf;refine ⟨trivial,?_⟩;refine (CallsIn.inRound l (callsIn_wide.2 Td.out)).mono ?_;rintro e wn ⟨rfl,hkk,hmm,zuk⟩;have Tn:=T9.kept hkk (.inl (.inl qw.out));have Pn:=P9.kept hkk (.inl (.inl qp.out));have Sn:=S9.kept hkk (.inl (.inl jF.out));have On:=O9.kept hkk (.inl (.inl wX.out));have Xn:=X9.kept hkk (.inl (.inr rfl));have Bn:=B9.kept hkk (.inr rfl)
         have j6:∀ j,Also P (g+1+1) j->Also (Also (More P w W4) Bx) wr.heap.size j:=fun j hj=>by
          rcases hj with hj|hj
          · exact .inl (.inl (.inl hj))
          · subst hj;exact .inl (.inl HMV.out)
         have mh:Z8 (Also P (g+1+1)) W wn:=HNK.out.trans (hkk.mono j6);have zta:KeepsFrom W4.heap.size W wn:=jG.out.trans (hmm.from Bo.out);have hE9:∀ j,Also P (g+1+1) j->j<wn.drew.heap.size:=fun j hj=>Nat.lt_of_lt_of_le (MP.out j hj) (Nat.le_trans hszW mh.size);have zY:=hide (Ua.out wn.drew ((HW.out.kept (NI.out.trans ((hB1.trans mh).mono fun j h=>.inl h)) K6.out).step (ZU (Below.refl _ _))));clear hkk hmm j6 HNK jG Ua Td T9 P9 S9 O9 X9 B9 e0 e1 t9 xw a0 a1;gi_wp2_with fail;refine Xy 12 (S:=fun w'=>Z6 w' g 2 #[.int .i64 (Z4 ps)]/\Z6 w' Bx 301 #[.int .i64 (x:Int),.int .i64 (nx:Int),.int .i64 (Z5 ps x).1,.int .i64 (Z5 ps x).2,.int .i64 (Z5 ps nx).1,.int .i64 (Z5 ps nx).2]/\Z6 w' wr.heap.size 41 #[.int .i64 (Z5 ps k).1,.int .i64 (Z5 ps k).2]/\Z6 w' (g+1) 44 #[.int .u64 (ZE vk)]) V5 ?_;have hS:Z6 wn.drew g 2 #[.int .i64 (Z4 ps)]/\Z6 wn.drew Bx 301 #[.int .i64 (x:Int),.int .i64 (nx:Int),.int .i64 (Z5 ps x).1,.int .i64 (Z5 ps x).2,.int .i64 (Z5 ps nx).1,.int .i64 (Z5 ps nx).2]/\Z6 wn.drew wr.heap.size 41 #[.int .i64 (Z5 ps k).1,.int .i64 (Z5 ps k).2]/\Z6 wn.drew (g+1) 44 #[.int .u64 (ZE vk)]:=⟨Sn,Xn,Bn,On⟩;refine' ZV (i:=0) rfl ?P8 hS ?M8
         case P8 =>
          intro w' hSw;obtain ⟨s1,s2,s3,s4⟩:=hSw;have z1:=s1.q0 rfl;have z2:=s2.q2 rfl;have z3:=s2.q3 rfl;have z4:=s2.q4 rfl;have z5:=s2.q5 rfl;have z6:=s3.q0 rfl;have z7:=s3.q1 rfl;have z8:=s4.q0 rfl;go_simp;rfl
         simp only [Act.put,getElem_toArray,getElem_cons_zero,setIfInBounds_toArray,set_cons_zero,set_cons_succ];refine' ZV (i:=1) rfl ?Qa hS ?M9
         case Qa =>
          intro w' hSw;go_simp;rfl
         simp only [Act.put,ZW];refine' ZV (i:=2) rfl ?Qb hS ?Na
         case Qb =>
          intro w' hSw;obtain ⟨s1,s2,s3,s4⟩:=hSw;have z1:=s1.q0 rfl;have z2:=s2.q2 rfl;have z3:=s2.q3 rfl;have z4:=s2.q4 rfl;have z5:=s2.q5 rfl;have z6:=s3.q0 rfl;have z7:=s3.q1 rfl;have z8:=s4.q0 rfl;go_simp;rfl
         simp only [Act.put,ZW];refine' ZV (i:=3) rfl ?Qc hS ?Nb
         case Qc =>
          intro w' hSw;go_simp;rfl
         simp only [Act.put,ZW];refine' ZV (i:=4) rfl ?LW hS ?IJ
         case LW =>
          intro w' hSw;obtain ⟨s1,s2,s3,s4⟩:=hSw;have z1:=s1.q0 rfl;have z2:=s2.q2 rfl;have z3:=s2.q3 rfl;have z4:=s2.q4 rfl;have z5:=s2.q5 rfl;have z6:=s3.q0 rfl;have z7:=s3.q1 rfl;have z8:=s4.q0 rfl;go_simp;rfl
         simp only [Act.put,ZW];refine' ZV (i:=5) rfl ?LX hS ?IK
         case LX =>
          intro w' hSw;obtain ⟨s1,s2,s3,s4⟩:=hSw;have z1:=s1.q0 rfl;have z2:=s2.q2 rfl;have z3:=s2.q3 rfl;have z4:=s2.q4 rfl;have z5:=s2.q5 rfl;have z6:=s3.q0 rfl;have z7:=s3.q1 rfl;have z8:=s4.q0 rfl;go_simp;rfl
         simp only [Act.put,ZW];refine' ZV (i:=8) rfl ?zut hS ?zra
         case zut =>
          intro w' hSw;obtain ⟨s1,s2,s3,s4⟩:=hSw;have z1:=s1.q0 rfl;have z2:=s2.q2 rfl;have z3:=s2.q3 rfl;have z4:=s2.q4 rfl;have z5:=s2.q5 rfl;have z6:=s3.q0 rfl;have z7:=s3.q1 rfl;have z8:=s4.q0 rfl;go_simp;rfl
         simp only [Act.put,ZW];refine' ZV (i:=9) rfl ?zux hS ?zre
         case zux =>
          intro w' hSw;go_simp;rfl
         simp only [Act.put,ZW];refine Yj (i:=6) (by kernel_rfl) rfl ?_;intro K hK;rw [if_pos (by rfl)];go_simp;refine ⟨trivial,?_⟩;refine (CallsIn.inRound l (callsIn_wide.2 zY.out)).mono ?_;rintro e GX ⟨rfl,Vu⟩;have hS1:Z6 GX g 2 #[.int .i64 (Z4 ps)]/\Z6 GX Bx 301 #[.int .i64 (x:Int),.int .i64 (nx:Int),.int .i64 (Z5 ps x).1,.int .i64 (Z5 ps x).2,.int .i64 (Z5 ps nx).1,.int .i64 (Z5 ps nx).2]/\Z6 GX wr.heap.size 41 #[.int .i64 (Z5 ps k).1,.int .i64 (Z5 ps k).2]/\Z6 GX (g+1) 44 #[.int .u64 (ZE vk)]:=⟨Sn.drew.step Vu,Xn.drew.step Vu,Bn.drew.step Vu,On.drew.step Vu⟩;refine hK.out _ _ (fun _=>hS1) ?_;clear hK K
         (try simp only [Act.put,ZW])
         refine' ZV (i:=7) rfl ?zus hS1 ?zqz
         case zus =>
          intro w' hSw;go_simp;rfl
         simp only [Act.put,ZW];have HEQ:=hide (Cb os (Z4 ps) Eu (WC ps) GX);refine Yj (i:=10) (by kernel_rfl) rfl ?_;intro K hK;rw [if_pos (by rfl)];go_simp;refine ⟨trivial,?_⟩;refine (CallsIn.inRound l (callsIn_wide.2 HEQ.out)).mono ?_;rintro e w' ⟨rfl,rfl⟩;refine hK.out _ _ (fun _=>hS1) ?_;clear hK K;have hand:=M5 vk (decide (os=Z4 ps))
         (try simp only [Act.put,ZW])
         refine' ZV (i:=11) rfl ?mU hS1 ?zys
         case mU =>
          intro w' hSw;go_simp;rfl
         simp only [Act.put,ZW];obtain ⟨s10,x10,b10,o10⟩:=hS1;have c7:GX.cell? ⟨g+1,0,none⟩=some (.int .u64 (ZE vk)):=o10.q0 rfl;have f7:=o10.frozen 0;refine Yj (i:=12) (by kernel_rfl) rfl ?_;intro K hK;rw [if_pos (by rfl)];go_simp;refine hK.out _ _ (fun h=>absurd rfl h) ?_;clear hK K;refine WI (by kernel_rfl) ?_ _;have hk10:Z8 (Also P (g+1+1)) W (GX.setCell ⟨g+1,0,none⟩ (.int .u64 (ZE (vk && decide (os=Z4 ps))))):=mh.trans ((Z8.drew _ _).trans ((Z8.of_below Vu hE9).trans (Z8.setCell qh.out _ _ _)));have zsx:KeepsFrom W4.heap.size W (GX.setCell ⟨g+1,0,none⟩ (.int .u64 (ZE (vk && decide (os=Z4 ps))))):=zta.trans ((KeepsFrom.of_below (ZU (Below.refl _ _))).trans ((KeepsFrom.of_below Vu).trans ((KeepsOthers.setCell _ _ _).from _)));have T10:=(Tn.drew.step Vu).far (p:=⟨g+1,0,none⟩) (by dsimp only;omega) (.int .u64 (ZE (vk && decide (os=Z4 ps))));have P10:=(Pn.drew.step Vu).far (p:=⟨g+1,0,none⟩) (by dsimp only;omega) (.int .u64 (ZE (vk && decide (os=Z4 ps))));have S10:=s10.far (p:=⟨g+1,0,none⟩) (by dsimp only;omega) (.int .u64 (ZE (vk && decide (os=Z4 ps))));have X10:=x10.far (p:=⟨g+1,0,none⟩) (by dsimp only;omega) (.int .u64 (ZE (vk && decide (os=Z4 ps))));have O10:=o10.set 0 (.int .u64 (ZE (vk && decide (os=Z4 ps))));have t10:=(zuk.drew.step Vu).set (.inl (.inl wX.out)) 0 (.int .u64 (ZE (vk && decide (os=Z4 ps))));have Uv:=hide (Wu.out _ ⟨T10,P10,S10⟩ O10 X10 hk10 zsx t10);clear T10 P10 S10 X10 O10 hk10 zsx t10 hand c7 f7 s10 x10 b10 o10 hS Vu Tn Pn Sn Xn On Bn mh zta zuk hE9 Wu zY HEQ;gi_wp2;go_roundw
         case rel=>exact ⟨k+1,by omega,by go_num,Uv.out⟩
         case measure=>simp [intOf];omega
   · obtain rfl:k=ps.length:=(by omega);have HIV:=hide Or;rw [<- Bw.out] at HIV;have dw:=htr.mono (R:=More P w W4) fun j h=>.inl h;rw [List.append_assoc,<- HVE.out] at dw;have G7:=hide (show KeepsFrom W4.heap.size W wr/\Z8 (Also P (g+1+1)) W wr/\(((Z6 wr w.heap.size 193 #[.pointer (Zz t)]/\Z6 wr (w.heap.size+1) 36 #[.slice (some ⟨b,off,none⟩) ps.length c])/\Z6 wr g 2 #[.int .i64 (Z4 ps)])/\Z6 wr (g+1) 44 #[.int .u64 (ZE (vF (Z4 ps) ps (pre++[x])))])/\(Z8 (Also P (g+1+1)) W4 wr/\Tp wr (More P w W4) t (es++Qu ps.length (pre++[x]))) from ⟨hfr,hkr,⟨⟨⟨Tr,Pr⟩,Sr⟩,HIV.out⟩,hB1.trans hkr,dw⟩);clear Tr Pr Sr Or Xr hkr hfr htr dw HIV;gi_wp2;exact G7.out
 case done =>
  rintro D zs W hD rfl ⟨⟨⟨⟨T1,P1⟩,S1⟩,O1⟩,hB1,hT1⟩ hK;have o1:=O1.q0 rfl;have hB2:Z8 P w W:=NI.out.trans (hB1.mono fun k h=>.inl h);gi_wp2;refine ⟨by simp,.inl ⟨_,_,rfl,run_takeDeferred hK,?_⟩⟩;refine ⟨_,results_tmp rfl _ _ _,rfl,hB2.trans (Z8.putObj _ (fun h=>?_) _),?_⟩
  · have:=MP.out D (.inl h);omega
  · exact (hT1.mono (R:=P) fun k h=>.inl h).putObj (fun u hu=>Nat.lt_of_lt_of_le (Bo.out u hu) hD) hK rfl _
 case stop =>
  rintro D c pre W _ _ h _;exact h.elim
end
section
open Go.RowKit
theorem VW(g j:Nat):(⟨g,0,none⟩:Addr).add j=⟨g,j,none⟩:=by unfold Addr.add;split <;> simp_all
end
section
open Go.RowKit Go.Shelf
theorem wpList_append_run {P:Program} {ops:Array Oper} {rest:List Oper} {o:Oper} {a:Act} {Q:Exit->Act->World->Prop} {w:World} (s x:Operand) (t:TypeId)
 (hop:o.op=Op.call { callee:=Callee.builtin Builtin.append,args:=#[s,x],argTypes:=#[t,t] }) (hw:Region.wanted o (yielded ops a.tmps)=true) (v xv:Value) (hs:a.eval s=v) (hx:a.eval x=xv) {v':Value} {w':World}
 (hrun:(Builtin.append_ #[t,t] o.type #[v,xv]).run P w=.ok v' w') (h:wpList P ops Q rest (a.put o.dst v') w'):wpList P ops Q (o::rest) a w:=by
 unfold wpList;rw [if_pos hw]
 left
 unfold Oper.wp;simp [execOp,hop,resolve,invoke,builtin,hs,hx,hrun,Result.andThen];exact h
end
end Go.Proofs.YthnenedoblncjaaGreatDoor