/- Valid RefEvents RefEvents16 RefEvents19 -/
import Derived.Scope
import Derived.Test.YthnenedoblncjaaGreatDoorPkR22
set_option maxRecDepth 1000000
set_option maxHeartbeats 8000000
namespace Go.Proofs.YthnenedoblncjaaGreatDoor
open Go.Proofs.Tryz
open List (getElem_toArray getElem_cons_succ getElem_cons_zero setIfInBounds_toArray set_cons_zero set_cons_succ)
section
open Go.RowKit Go.Shelf
attribute [local go_sem] Oper.semAt_some
section
variable {F:Fence}{n:Nat}{P:Program}{b:Frame}{a:Act}{k:List Item}{cs:List Frame}{w:World}{Q:Exit->Act->World->Prop}
theorem WT{c:Code}:step P (lone (b.atR a (.code (.scope c)::k)) cs w)=.next (lone (b.atR a (.code c::.inScope c::k)) cs w) :=
 step_lone_go (by simp [stepG,stepG.exec,Frame.atR])
theorem Jg{c:Code}:step P (lone (b.atR a (.inScope c::k)) cs w)=.next (lone (b.atR a k) cs w) :=
 step_lone_go (by simp [stepG,stepG.exec,Frame.atR])
theorem Vt{c:Code}(h:c.wpIn F n P (Exit.noGoto Q) a w):(Code.scope c).wpIn F n P Q a w:=by
 intro b k cs hro hb hr;have h0:(lone (b.atR a (.code (.scope c)::k)) cs w).fenced P F:=fenced_calm hb hr rfl;obtain ⟨e,a₁,w₁,hq,harr⟩:=h b (.inScope c::k) cs hro hb hr;cases e with
 | normal=>exact ⟨.normal,a₁,w₁,hq,.head h0 WT (StepsIn.trans harr (.one (fenced_calm hb hr rfl) Jg))⟩
 | exit id =>
   have hx:exitTo id (.inScope c::k)=exitTo id k:=by simp [exitTo]
   exact ⟨.exit id,a₁,w₁,hq,fun k' hk=>.head h0 WT (harr.1 k' (by rw [hx];exact hk)),
    fun hr' hk=>let ⟨k₁,h1,h2⟩:=harr.2 hr' (by rw [hx];exact hk);⟨k₁,h1,.head h0 WT h2⟩⟩
 | goto l=>exact hq.elim
 | ret=>exact ⟨_,a₁,w₁,hq,.of_steps (.one h0 WT) harr⟩
 | panic ch=>exact ⟨_,a₁,w₁,hq,.of_steps (.one h0 WT) harr⟩
 | outgrown=>exact ⟨_,a₁,w₁,hq,.of_steps (.one h0 WT) harr⟩
end
theorem Lx(a b:Bool):bits BinOp.and IntKind.u64 (ZH a) (ZH b)=ZH (a && b):=by cases a <;> cases b <;> decide
theorem QK(a:Bool):bits BinOp.xor IntKind.u64 IntKind.u64.max (ZH a)=ZH (!a):=by cases a <;> decide
def okE(s:Int)(ps:List Pt)(i j:Nat):Bool :=
 decide (j=i) || decide (j=(i+1) % ps.length) || decide ((Zw (ZX ps i) (ZX ps ((i+1) % ps.length)) (ZX ps j)).sign=s)
def V8(s:Int)(ps:List Pt)(i:Nat)(v:Bool)(k:Nat):Bool:=(List.range k).foldl (fun v j=>v && okE s ps i j) v
theorem Ch(s:Int)(ps:List Pt)(i:Nat)(v:Bool)(k:Nat):V8 s ps i v (k+1)=(V8 s ps i v k && okE s ps i k):=by
 simp [V8,List.range_succ]
def vF(s:Int)(ps:List Pt)(pre:List Nat):Bool:=pre.foldl (fun v i=>V8 s ps i v ps.length) (!decide (s=0))
theorem bO(s:Int)(ps:List Pt)(pre:List Nat)(i:Nat):vF s ps (pre++[i])=V8 s ps i (vF s ps pre) ps.length:=by simp [vF]
def Un(ps:List Pt):Bool:=vF (Z4 ps) ps (List.range (Zy ps.length))
theorem F7{a b:Int}(h0:0<=a)(h1:a<18446744073709551616)(h2:0<=b)(h3:b<18446744073709551616):0<=bits BinOp.xor IntKind.u64 a b/\bits BinOp.xor IntKind.u64 a b<18446744073709551616/\(bits BinOp.xor IntKind.u64 a b=0 ↔ a=b):=by
 rw [u64_xor a b h0 h1 h2 h3];have hx:a.toNat ^^^ b.toNat<2 ^ 64:=Nat.xor_lt_two_pow (by omega) (by omega);refine ⟨by omega,by omega,?_⟩;constructor
 · intro h;have h':a.toNat ^^^ b.toNat=0:=(by omega);have e:b.toNat=a.toNat ^^^ (a.toNat ^^^ b.toNat):=(by rw [<- Nat.xor_assoc,Nat.xor_self,Nat.zero_xor]);rw [h',Nat.xor_zero] at e;omega
 · rintro rfl;simp
theorem Gw(a b:Int)(h0:0<=a)(h1:a<18446744073709551616)(h2:0<=b)(h3:b<18446744073709551616)(w:World):Calls prog 260 #[.int .u64 a,.int .u64 b] w fun e w'=>e=.returned (.int .u64 (ZH (decide (a=b))))/\w=w':=by
 obtain ⟨x0,x1,x2⟩:=F7 h0 h1 h2 h3;have HZ:=hide (TY (bits BinOp.xor IntKind.u64 a b) x0 x1 w);have e:decide (bits BinOp.xor IntKind.u64 a b=0)=decide (a=b):=by simp only [x2]
 rw [e] at HZ;clear e x2 x0 x1;go_enter func260,ntmps260;go_wp2_with fail;refine HZ.out.mono ?_;rintro e w' ⟨rfl,rfl⟩;go_wp2;go_ret;exact ⟨rfl,rfl⟩
theorem Wo{x y:Int}(hx:x=-1\/x=0\/x=1)(hy:y=-1\/y=0\/y=1):(0<=IntKind.u64.wrap x/\IntKind.u64.wrap x<18446744073709551616)/\decide (IntKind.u64.wrap x=IntKind.u64.wrap y)=decide (x=y):=by
 rcases hx with rfl|rfl|rfl <;> rcases hy with rfl|rfl|rfl <;> decide
theorem wN(x y:Int)(hx:x=-1\/x=0\/x=1)(hy:y=-1\/y=0\/y=1)(w:World):Calls prog 260 #[.int .u64 (IntKind.u64.wrap x),.int .u64 (IntKind.u64.wrap y)] w fun e w'=>e=.returned (.int .u64 (ZH (decide (x=y))))/\w=w':=by
 have h:=Gw _ _ (Wo hx hx).1.1 (Wo hx hx).1.2 (Wo hy hy).1.1 (Wo hy hy).1.2 w;rw [(Wo hx hy).2] at h;exact h
theorem WW(ps:List Pt):Z4 ps=-1\/Z4 ps=0\/Z4 ps=1:=by
 rw [<- Tg];exact W9 _
def Jj(x nx k:Nat):List Ev:=((List.range k).filter fun j=>!(decide (j=x) || decide (j=nx))).map fun (j:Nat)=>(4,(x:Int),(j:Int))
theorem JZ{x nx k:Nat}(h:k=x\/k=nx):Jj x nx (k+1)=Jj x nx k:=by
 unfold Jj;rw [List.range_succ,List.filter_append];have e:(!(decide (k=x) || decide (k=nx)))=false:=by rcases h with h|h <;> simp [h]
 simp [List.filter,e]
theorem Bb{x nx k:Nat}(h:k≠x)(h':k≠nx):Jj x nx (k+1)=Jj x nx k++[(4,(x:Int),(k:Int))]:=by
 unfold Jj;rw [List.range_succ,List.filter_append];simp [List.filter,h,h']
theorem JY(x nx k:Nat):(Jj x nx k).length<=k:=by
 unfold Jj;rw [List.length_map];exact Nat.le_trans (List.length_filter_le _ _) (by simp)
def RX(n:Nat)(pre:List Nat):List Ev:=pre.flatMap fun x=>Jj x ((x+1) % n) n
theorem mI(n:Nat)(pre:List Nat)(x:Nat):RX n (pre++[x])=RX n pre++Jj x ((x+1) % n) n:=by simp [RX]
theorem TB(n:Nat):∀ pre:List Nat,(RX n pre).length<=pre.length*n
 | []=>by simp [RX]
 | x::r=>by
   have h1:=TB n r;have h2:=JY x ((x+1) % n) n;have e:RX n (x::r)=Jj x ((x+1) % n) n++RX n r:=(by simp [RX]);rw [e,List.length_append,List.length_cons,Nat.add_mul];omega
theorem Iz(P:Nat->Prop)(t:Option (Nat × Nat))(es:List Ev)(ps:List Pt)(hps:LW ps)(hn:ps.length<=10000)(A:Option Addr)(c:Nat)(w:World)(hP:∀ k,P k->k<w.heap.size)(hg0:P 8)(hs:Wp w P A (Zl ps))(hw:MW w)(ht:Tp w P t es)(hl:es.length<=900000):
 Calls prog 192 #[.pointer (ZG t),.slice A ps.length c] w fun e w'=>e=.returned (.int .u64 (ZH (Un ps)))/\Z9 P w w'/\Tp w' P t (es++RX ps.length (List.range (Zy ps.length))):=by
 obtain ⟨w0,hw0⟩:=eE ((w.alloc (.cells #[.pointer (ZG t)] 193)).alloc (.cells #[.slice A ps.length c] 36));have hb0:=bF hw0;have T0:Z7 w0 w.heap.size 193 #[.pointer (ZG t)]:=by rw [hw0];exact (Z7.new _ _ _).alloc _
 have P0:Z7 w0 (w.heap.size+1) 36 #[.slice A ps.length c]:=by rw [hw0];exact Z7.new2 _ _ _ _
 have dZ:=hide (Sv ps hps hn A c w0 (((hs.sl hP).below hb0).more hb0.size) (hw.step hb0));have v0:w0.cell? ⟨w.heap.size+1,0,none⟩=some (.slice A ps.length c):=P0.q0 rfl;refine (callsIn_wide (n:=6)).1 ?_;refine callsIn_of_wp_marks func192 rfl trivial ?_ rfl;simp only [ntmps192,List.size_toArray,List.length_cons,List.length_nil,Nat.reduceAdd,Nat.reduceSub,Array.replicate_succ,Array.replicate_zero,List.push_toArray,List.append_toArray,List.nil_append,List.cons_append];gi_wp2_with fail;rw [<- hw0];have HW0:=hide hw0;clear hw0;refine ⟨trivial,?_⟩;refine (callsIn_wide.2 dZ.out).mono ?_;rintro e w1 ⟨rfl,hb1⟩;obtain ⟨g,hg⟩:=eE w1.heap.size;have P1:=P0.step hb1;have v1:w1.cell? ⟨w.heap.size+1,0,none⟩=some (.slice A ps.length c):=P1.q0 rfl;have HZE:=hide (TY (IntKind.u64.wrap (Z4 ps)) (Wo (WW ps) (WW ps)).1.1 (Wo (WW ps) (WW ps)).1.2 (w1.alloc (.cells #[.int .i64 (Z4 ps)] 2)));rw [(V3 (show -1<=Z4 ps by rcases WW ps with h|h|h <;> omega) (by rcases WW ps with h|h|h <;> omega)).2] at HZE;have hnot:=QK (decide (Z4 ps=0));have v2:((w1.alloc (.cells #[.int .i64 (Z4 ps)] 2)).alloc (.cells #[.int .u64 (ZH (!decide (Z4 ps=0)))] 44)).cell? ⟨w.heap.size+1,0,none⟩=some (.slice A ps.length c):=((P1.alloc _).alloc _).q0 rfl;gi_wp2_with fail;refine ⟨trivial,?_⟩;refine (callsIn_wide.2 HZE.out).mono ?_;rintro e w2' ⟨rfl,rfl⟩;gi_wp2_with fail;refine ⟨trivial,?_⟩;refine (callsIn_wide.2 (Gu _ A ps.length c rfl _)).mono ?_;rintro e w3 ⟨rfl,rfl⟩;have hs2:((w1.alloc (.cells #[.int .i64 (Z4 ps)] 2)).alloc (.cells #[.int .u64 (ZH (!decide (Z4 ps=0)))] 44)).heap.size=g+1+1:=by simp [hg]
 rw [hs2];have G0:Z7 (((w1.alloc (.cells #[.int .i64 (Z4 ps)] 2)).alloc (.cells #[.int .u64 (ZH (!decide (Z4 ps=0)))] 44)).alloc (.cells #[.slice A ps.length c] 36)) g 2 #[.int .i64 (Z4 ps)]:=by rw [hg];exact ((Z7.new _ _ _).alloc _).alloc _
 have G1:Z7 (((w1.alloc (.cells #[.int .i64 (Z4 ps)] 2)).alloc (.cells #[.int .u64 (ZH (!decide (Z4 ps=0)))] 44)).alloc (.cells #[.slice A ps.length c] 36)) (g+1) 44 #[.int .u64 (ZH (!decide (Z4 ps=0)))]:=by rw [hg];exact (Z7.new2 _ _ _ _).alloc _
 have G2:Z7 (((w1.alloc (.cells #[.int .i64 (Z4 ps)] 2)).alloc (.cells #[.int .u64 (ZH (!decide (Z4 ps=0)))] 44)).alloc (.cells #[.slice A ps.length c] 36)) (g+1+1) 36 #[.slice A ps.length c]:=by
  have h2:=Z7.new ((w1.alloc (.cells #[.int .i64 (Z4 ps)] 2)).alloc (.cells #[.int .u64 (ZH (!decide (Z4 ps=0)))] 44)) 36 #[.slice A ps.length c];rw [hs2] at h2;exact h2
 have hb4:Below w1.heap.size w1 (((w1.alloc (.cells #[.int .i64 (Z4 ps)] 2)).alloc (.cells #[.int .u64 (ZH (!decide (Z4 ps=0)))] 44)).alloc (.cells #[.slice A ps.length c] 36)):=Z5 (Z5 (bA) _) _;have hs4:(((w1.alloc (.cells #[.int .i64 (Z4 ps)] 2)).alloc (.cells #[.int .u64 (ZH (!decide (Z4 ps=0)))] 44)).alloc (.cells #[.slice A ps.length c] 36)).heap.size=g+3:=by simp [hg]
 obtain ⟨W4,um⟩:∃ W4,(((w1.alloc (.cells #[.int .i64 (Z4 ps)] 2)).alloc (.cells #[.int .u64 (ZH (!decide (Z4 ps=0)))] 44)).alloc (.cells #[.slice A ps.length c] 36))=W4:=⟨_,rfl⟩;rw [um] at G0 G1 G2 hb4 hs4;gi_wp2_with fail;rw [<- hg];have hB4:Below w.heap.size w W4:=Z8 (Z8 hb0 hb1) hb4;have hgw:w.heap.size+2<=g:=by
  have h1:=hb1.size;have h2:w0.heap.size=w.heap.size+2:=by rw [HW0.out];simp
  omega
 have T4:=(T0.step hb1).step hb4;have P4:=(P0.step hb1).step hb4;have Lg:=hide hps;have HW:=hide hw;have HSL:=hide (hs.kept (Z9.of_below hB4 hP))
 have Lp:∀ k,Also P (g+1+1) k->k<W4.heap.size:=fun k hk=>by
  rcases hk with hk|hk
  · exact Nat.lt_of_lt_of_le (hP k hk) hB4.size
  · omega
 have IW:=ht.more hB4;have hmb:∀ u,t=some u->u.2<W4.heap.size:=fun u hu=>Nat.lt_of_lt_of_le (ht.zuk u hu) hB4.size;have hE1:¬ Also P (g+1+1) (g+1):=by
  rintro (h|h)
  · have:=hP _ h;omega
  · omega
 have hM:∀ k,w.heap.size<=k->k<g+3->More P w W4 k:=fun k h1 h2=>.inr ⟨h1,by omega⟩;have bZ:=hide (hM w.heap.size (by omega) (by omega));have bY:=hide (hM (w.heap.size+1) (by omega) (by omega));have HMS:=hide (hM g (by omega) (by omega));have mQ:=hide (hM (g+1) (by omega) (by omega));have HMV:=hide (hM (g+1+1) (by omega) (by omega));have hK0:Z9 P w W4:=Z9.of_below hB4 hP;have xu:∀ k,Also P (g+1+1) k->k<W4.heap.size/\k<W4.heap.size:=fun k hk=>⟨Lp k hk,Lp k hk⟩;have hPM:∀ k,More P w W4 k->k<W4.heap.size:=Yr hP hB4;have RO:=hide hE1;have Lf:=hide Lp;have Ga:=hide hmb;have HT4:=hide IW;have NV:=hide hK0;have eD:=hide xu;have HPM:=hide hPM;have Jp:=hide hg0;have zfd:=hide (show ∀ k,P k->k<W4.heap.size from fun k hk=>Lp k (.inl hk));clear hE1 Lp hmb IW hM hK0 xu hPM hg0 ht hP;clear um hg hs2 HZE dZ T0 P0 P1 v0 v1 v2 hps hw hs hb0 hb1 hb4 HW0 hnot hB4
 refine wpIn_rangeFunc_ownH rfl (by omega) (gf:=304) (lb:=#[.pointer (some ⟨g+1+1,0,none⟩)]) rfl trivial (enters_of func304 (by kernel_rfl) rfl)
  (Mv 5 (by omega) (g+1+1) (Also P (g+1+1)) ps A c W4 Lf.out (.inr rfl) G2 (HSL.out.mono fun k h=>.inl h)) Z9.trans (fun W l o o' hl _ _ _=>Z9.putObj o' (fun h=>by have:=Lf.out _ h;omega) W) (Below.refl _ _) (fun _=>rfl)
  (fun pre W=>(((Z7 W w.heap.size 193 #[.pointer (ZG t)]/\Z7 W (w.heap.size+1) 36 #[.slice A ps.length c])/\Z7 W g 2 #[.int .i64 (Z4 ps)])/\Z7 W (g+1) 44 #[.int .u64 (ZH (vF (Z4 ps) ps pre))])/\(Z9 (Also P (g+1+1)) W4 W/\Tp W (More P w W4) t (es++RX ps.length pre)))
  (fun _ _ _=>False)
  (OwnFrom.and (OwnFrom.and (OwnFrom.and (OwnFrom.and (Own.from (XR _ _ _) _) (Own.from (XR _ _ _) _)) (Own.from (XR _ _ _) _)) (Own.from (XR _ _ _) _)) (OwnFrom.and (Uk eD.out) (WY _ (More P w W4) t (fun pre=>es++RX ps.length pre) Ga.out)))
  (fun _ _ _ _ _ hs _ _=>hs)
  ⟨⟨⟨⟨T4,P4⟩,G0⟩,G1⟩,Z9.refl _ _,by simpa [RX] using HT4.out⟩
  (fun x a' W=>∃ Bx es',g+1<Bx/\Tp W (Also (More P w W4) Bx) t es'/\Z7 W Bx 301 #[.int .i64 (x:Int),.int .i64 (((x:Int)+1) % (ps.length:Int)),.int .i64 (ZX ps x).1,.int .i64 (ZX ps x).2,.int .i64 (ZX ps ((x+1) % ps.length)).1,.int .i64 (ZX ps ((x+1) % ps.length)).2]/\a'={ tmps:=#[.pointer (ZG t),.slice A ps.length c,.pointer (some ⟨w.heap.size,0,none⟩),.pointer (some ⟨w.heap.size+1,0,none⟩),.int .u64 0,.pointer (some ⟨g,0,none⟩),.pointer (some ⟨g+1,0,none⟩),.pointer (some ⟨Bx,0,none⟩),undef,undef,.slice A ps.length c,.int .i64 (Z4 ps),.int .i64 (Z4 ps),.int .u64 (IntKind.u64.wrap (Z4 ps)),.int .u64 (ZH (decide (Z4 ps=0))),.int .u64 (ZH (!decide (Z4 ps=0))),.slice A ps.length c,.func (.func 304) #[] #[.pointer (some ⟨g+1+1,0,none⟩)],.agg #[.int .i64 (x:Int),.int .i64 (((x:Int)+1) % (ps.length:Int)),.int .i64 (ZX ps x).1,.int .i64 (ZX ps x).2,.int .i64 (ZX ps ((x+1) % ps.length)).1,.int .i64 (ZX ps ((x+1) % ps.length)).2],undef,undef,undef,undef,undef,undef,undef,undef,undef,undef,undef,undef,undef,undef,undef,undef,undef,undef,undef,undef,undef,undef,undef,undef,undef,undef,undef,undef,undef,undef,undef,undef,undef,undef,undef,undef],defers:=[] })
  (fun x a' _ X Y row hs hg hr=>by obtain ⟨Bx,es',h1,hT,h2,h3⟩:=hs;exact ⟨Bx,es',h1,WY _ _ t (fun _:Unit=>es') Ga.out () X Y row hT hg hr,XR Bx 301 (fun (_:Unit)=>#[.int .i64 (x:Int),.int .i64 (((x:Int)+1) % (ps.length:Int)),.int .i64 (ZX ps x).1,.int .i64 (ZX ps x).2,.int .i64 (ZX ps ((x+1) % ps.length)).1,.int .i64 (ZX ps ((x+1) % ps.length)).2]) () X Y row h2 hg (fun r e=>(hr r e).2),h3⟩)
  ?assign ?body ?done ?stop
 case assign =>
  rintro l pre x W K ⟨⟨⟨⟨T1,P1⟩,S1⟩,O1⟩,hB1,hT1⟩ hK;have hlt:g+1<W.heap.size:=O1.lt;unfold gP;gi_wp2;have hEW:∀ k,Also P (g+1+1) k->k<W.heap.size:=fun k hk=>Nat.lt_of_lt_of_le (Lf.out k hk) hB1.size;refine hK _ _ ((KeepsOthers.alloc _ _).from _) (Z9.of_below (bA) hEW) ⟨⟨⟨⟨T1.alloc _,P1.alloc _⟩,S1.alloc _⟩,O1.alloc _⟩,hB1.trans (Z9.of_below (bA) hEW),hT1.step (bA)⟩ ⟨W.heap.size,es++RX ps.length pre,hlt,?_,Z7.new _ _ _,rfl⟩;refine (hT1.add (R:=Also (More P w W4) W.heap.size) fun k hk=>?_).step (bA);rcases hk with hk|hk
  · exact .inl hk
  · exact .inr (by omega)
 case body =>
  rintro l pre x a' W hl _ ⟨⟨⟨⟨T1,P1⟩,S1⟩,O1⟩,hB1,hT1⟩ ⟨Bx,es',hBx,hTx,bX,rfl⟩ hpl;have hszW:W4.heap.size<=W.heap.size:=hB1.size;have pq:=hT1.with hTx
  clear hT1 hTx;have zcg:3<=ps.length/\ps.length<=64:=by
   unfold Zy at hpl;split at hpl
   · assumption
   · omega
  obtain ⟨h3,h64⟩:=zcg;have Yv:prog.follows .mixedOrders=true:=by kernel_rfl
  obtain ⟨b,off,rfl,hb⟩:=FU (HSL.out.sl zfd.out) (by omega);obtain ⟨nx,hnx⟩:=eE ((x+1) % ps.length);have zhm:((x:Int)+1) % (ps.length:Int)=(nx:Int):=by rw [hnx];rfl
  obtain ⟨vp,hvp⟩:=eE (vF (Z4 ps) ps pre);have vM:=hide (bO (Z4 ps) ps pre x);rw [<- hvp] at vM O1;rw [zhm,<- hnx] at bX ⊢;have Ud:Hid (∀ k,okE (Z4 ps) ps x k=(decide (k=x) || decide (k=nx) || decide ((Zw (ZX ps x) (ZX ps nx) (ZX ps k)).sign=Z4 ps))):=hide fun k=>by rw [hnx];rfl
  have v1:W.cell? ⟨w.heap.size+1,0,none⟩=some (.slice (some ⟨b,off,none⟩) ps.length c):=P1.q0 rfl;have hpre:(es++RX ps.length pre).length<=910000:=by
   have h1:=TB ps.length pre;have h2:pre.length<=64:=(by unfold Zy at hpl;split at hpl <;> omega);have h3:pre.length*ps.length<=64*64:=Nat.mul_le_mul h2 h64;rw [List.length_append];omega
  have HVE:=hide (mI ps.length pre x);rw [<- hnx] at HVE;have zY:=hide hpre;have HTB:=hide pq;clear hpl hnx zhm hvp hpre pq;gi_wp2_with fail;refine Vt ?_;refine wpIn_seq_k (fun K hK=>wpIn_label ?_);refine hK _ _ ?_;clear hK K;gi_wp2_with fail
  gi_loopw [21] (fun i wr=>∃ k:Nat,k<=ps.length/\i=.int .i64 k/\(Z7 wr w.heap.size 193 #[.pointer (ZG t)]/\Z7 wr (w.heap.size+1) 36 #[.slice (some ⟨b,off,none⟩) ps.length c]/\Z7 wr g 2 #[.int .i64 (Z4 ps)])/\Z7 wr (g+1) 44 #[.int .u64 (ZH (V8 (Z4 ps) ps x vp k))]/\Z7 wr Bx 301 #[.int .i64 (x:Int),.int .i64 (nx:Int),.int .i64 (ZX ps x).1,.int .i64 (ZX ps x).2,.int .i64 (ZX ps nx).1,.int .i64 (ZX ps nx).2]/\Z9 (Also P (g+1+1)) W wr/\KeepsFrom W4.heap.size W wr/\Tp wr (Also (More P w W4) Bx) t (es++RX ps.length pre++Jj x nx k))
   (fun i _=>ps.length - (intOf i).toNat)
  case atStart=>exact ⟨0,Nat.zero_le _,rfl,⟨T1,P1,S1⟩,O1,bX,Z9.refl _ _,KeepsFrom.refl _ _,by simpa [Jj] using HTB.out⟩
  case round =>
   clear T1 P1 S1 O1 bX v1;obtain ⟨k,hk,rfl,⟨Tr,Pr,Sr⟩,Or,Xr,hkr,hfr,htr⟩:=hrel;have hEr:∀ k,Also P (g+1+1) k->k<wr.heap.size:=fun k hk=>by have:=Lf.out k hk;have:=hkr.size;omega
   by_cases hlt:k<ps.length
   · have Nv:((k:Nat):Int)<((ps.length:Nat):Int):=(by omega);have hsr:=(HSL.out.kept ((hB1.trans hkr).mono fun k h=>.inl h)).sl zfd.out;obtain ⟨a0,a1⟩:=M4 hsr hlt;obtain ⟨vk,hvk⟩:=eE (V8 (Z4 ps) ps x vp k);have mV:=hide (Ch (Z4 ps) ps x vp k);rw [<- hvk] at mV Or;obtain ⟨w9,nu⟩:∃ w9,wr.alloc (.cells #[.int .i64 (ZX ps k).1,.int .i64 (ZX ps k).2] 41)=w9:=⟨_,rfl⟩;have T9:Z7 w9 w.heap.size 193 #[.pointer (ZG t)]:=(by rw [<- nu];exact Tr.alloc _);have P9:Z7 w9 (w.heap.size+1) 36 #[.slice (some ⟨b,off,none⟩) ps.length c]:=(by rw [<- nu];exact Pr.alloc _);have S9:Z7 w9 g 2 #[.int .i64 (Z4 ps)]:=(by rw [<- nu];exact Sr.alloc _);have O9:Z7 w9 (g+1) 44 #[.int .u64 (ZH vk)]:=(by rw [<- nu];exact Or.alloc _);have X9:Z7 w9 Bx 301 #[.int .i64 (x:Int),.int .i64 (nx:Int),.int .i64 (ZX ps x).1,.int .i64 (ZX ps x).2,.int .i64 (ZX ps nx).1,.int .i64 (ZX ps nx).2]:=(by rw [<- nu];exact Xr.alloc _);have B9:Z7 w9 wr.heap.size 41 #[.int .i64 (ZX ps k).1,.int .i64 (ZX ps k).2]:=(by rw [<- nu];exact Z7.new _ _ _);have hk9:Z9 (Also P (g+1+1)) W w9:=(by rw [<- nu];exact hkr.trans (Z9.of_below (bA) hEr));have hf9:KeepsFrom W4.heap.size W w9:=(by rw [<- nu];exact hfr.trans (KeepsFrom.of_below (bA)));have e0:w9.cell? ⟨Bx,0,none⟩=some (.int .i64 (x:Int)):=X9.q0 rfl;have e1:w9.cell? ⟨Bx,1,none⟩=some (.int .i64 (nx:Int)):=X9.q1 rfl;have t9:w9.cell? ⟨w.heap.size,0,none⟩=some (.pointer (ZG t)):=T9.q0 rfl;have ht9:Tp w9 (Also (Also (More P w W4) Bx) wr.heap.size) t (es++RX ps.length pre++Jj x nx k):=by
      rw [<- nu];refine (htr.add fun j hj=>?_).step (bA);rcases hj with hj|hj
      · exact .inl hj
      · exact .inr (by omega)
     clear hvk hsr Tr Pr Sr Or Xr hkr hfr htr
     by_cases hkx:k=x
     · have hki:(k:Int)=(x:Int):=(by omega);have HO:V8 (Z4 ps) ps x vp (k+1)=vk:=(by rw [mV.out,Ud.out,decide_eq_true hkx];simp);have O9':=O9;rw [<- HO] at O9';have xU:=ht9.mono (R:=Also (More P w W4) Bx) fun j h=>.inl h;rw [<- JZ (x:=x) (nx:=nx) (k:=k) (.inl hkx)] at xU;have Ue:=hide (show (Z7 w9 w.heap.size 193 #[.pointer (ZG t)]/\Z7 w9 (w.heap.size+1) 36 #[.slice (some ⟨b,off,none⟩) ps.length c]/\Z7 w9 g 2 #[.int .i64 (Z4 ps)])/\Z7 w9 (g+1) 44 #[.int .u64 (ZH (V8 (Z4 ps) ps x vp (k+1)))]/\Z7 w9 Bx 301 #[.int .i64 (x:Int),.int .i64 (nx:Int),.int .i64 (ZX ps x).1,.int .i64 (ZX ps x).2,.int .i64 (ZX ps nx).1,.int .i64 (ZX ps nx).2]/\Z9 (Also P (g+1+1)) W w9/\KeepsFrom W4.heap.size W w9/\Tp w9 (Also (More P w W4) Bx) t (es++RX ps.length pre++Jj x nx (k+1)) from ⟨⟨T9,P9,S9⟩,O9',X9,hk9,hf9,xU⟩);clear O9' HO xU T9 P9 S9 O9 X9 B9 hk9 hf9 ht9 mV Ud;rw [hkx] at nu a0 a1;gi_wp2_with fail;go_roundw
       case rel=>exact ⟨k+1,by omega,by go_num,Ue.out⟩
       case measure=>simp [intOf];omega
     · have hki:¬ (k:Int)=(x:Int):=by omega
       by_cases hkn:k=nx
       · have zhc:(k:Int)=(nx:Int):=(by omega);have HO:V8 (Z4 ps) ps x vp (k+1)=vk:=(by rw [mV.out,Ud.out,decide_eq_true hkn];simp);have O9':=O9;rw [<- HO] at O9';have xU:=ht9.mono (R:=Also (More P w W4) Bx) fun j h=>.inl h;rw [<- JZ (x:=x) (nx:=nx) (k:=k) (.inr hkn)] at xU;have Ue:=hide (show (Z7 w9 w.heap.size 193 #[.pointer (ZG t)]/\Z7 w9 (w.heap.size+1) 36 #[.slice (some ⟨b,off,none⟩) ps.length c]/\Z7 w9 g 2 #[.int .i64 (Z4 ps)])/\Z7 w9 (g+1) 44 #[.int .u64 (ZH (V8 (Z4 ps) ps x vp (k+1)))]/\Z7 w9 Bx 301 #[.int .i64 (x:Int),.int .i64 (nx:Int),.int .i64 (ZX ps x).1,.int .i64 (ZX ps x).2,.int .i64 (ZX ps nx).1,.int .i64 (ZX ps nx).2]/\Z9 (Also P (g+1+1)) W w9/\KeepsFrom W4.heap.size W w9/\Tp w9 (Also (More P w W4) Bx) t (es++RX ps.length pre++Jj x nx (k+1)) from ⟨⟨T9,P9,S9⟩,O9',X9,hk9,hf9,xU⟩);clear O9' HO xU T9 P9 S9 O9 X9 B9 hk9 hf9 ht9 mV Ud;rw [hkn] at nu a0 a1;gi_wp2_with fail;go_roundw
         case rel=>exact ⟨k+1,by omega,by go_num,Ue.out⟩
         case measure=>simp [intOf];omega
       · have zhc:¬ (k:Int)=(nx:Int):=(by omega);obtain ⟨os,hos⟩:=eE ((Zw (ZX ps x) (ZX ps nx) (ZX ps k)).sign);have hO:V8 (Z4 ps) ps x vp (k+1)=(vk && decide (os=Z4 ps)):=(by rw [mV.out,Ud.out,hos,decide_eq_false hkx,decide_eq_false hkn];simp);have Qa:=hide (Bb hkx hkn)
         have WL:=hide (fun (W8:World) (h1:(Z7 W8 w.heap.size 193 #[.pointer (ZG t)]/\Z7 W8 (w.heap.size+1) 36 #[.slice (some ⟨b,off,none⟩) ps.length c]/\Z7 W8 g 2 #[.int .i64 (Z4 ps)])) (h2:Z7 W8 (g+1) 44 #[.int .u64 (ZH (vk && decide (os=Z4 ps)))]) (h3:Z7 W8 Bx 301 #[.int .i64 (x:Int),.int .i64 (nx:Int),.int .i64 (ZX ps x).1,.int .i64 (ZX ps x).2,.int .i64 (ZX ps nx).1,.int .i64 (ZX ps nx).2]) (h4:Z9 (Also P (g+1+1)) W W8) (h5:KeepsFrom W4.heap.size W W8) (h6:Tp W8 (Also (Also (More P w W4) Bx) wr.heap.size) t (es++RX ps.length pre++Jj x nx k++[(4,(x:Int),(k:Int))])) =>
          (show (Z7 W8 w.heap.size 193 #[.pointer (ZG t)]/\Z7 W8 (w.heap.size+1) 36 #[.slice (some ⟨b,off,none⟩) ps.length c]/\Z7 W8 g 2 #[.int .i64 (Z4 ps)])/\Z7 W8 (g+1) 44 #[.int .u64 (ZH (V8 (Z4 ps) ps x vp (k+1)))]/\Z7 W8 Bx 301 #[.int .i64 (x:Int),.int .i64 (nx:Int),.int .i64 (ZX ps x).1,.int .i64 (ZX ps x).2,.int .i64 (ZX ps nx).1,.int .i64 (ZX ps nx).2]/\Z9 (Also P (g+1+1)) W W8/\KeepsFrom W4.heap.size W W8/\Tp W8 (Also (More P w W4) Bx) t (es++RX ps.length pre++Jj x nx (k+1)) from ⟨h1,by rw [hO];exact h2,h3,h4,h5,by rw [Qa.out,<- List.append_assoc];exact h6.mono fun j h=>.inl h⟩))
         have D9:os=-1\/os=0\/os=1:=by rw [hos];exact W9 _
         have iA:∀ j,Also (Also (More P w W4) Bx) wr.heap.size j->j<w9.heap.size:=fun j hj=>by
          rcases hj with (hj|hj)|hj
          · have:=HPM.out j hj;have:=hk9.size;omega
          · subst hj;exact X9.lt
          · subst hj;exact B9.lt
         have TF:=hide (fun w9 (hM:MW w9)=>Wh (ZX ps x) (ZX ps nx) (ZX ps k) (Lg.out.at_ _) (Lg.out.at_ _) (Lg.out.at_ _) w9 hM);rw [<- hos] at TF;have hle:(es++RX ps.length pre++Jj x nx k).length<=1000000:=by
          have:=JY x nx k;have:=zY.out;rw [List.length_append];omega
         have RY:=hide (VR (Also (Also (More P w W4) Bx) wr.heap.size) t (es++RX ps.length pre++Jj x nx k) 4 (x:Int) (k:Int) w9 iA ht9 hle (by unfold Zg;omega));have hNK:Z9 (Also P (g+1+1)) W w9:=hk9;have HNK:=hide hNK;have cu:=hide hf9;clear hO hos iA hle hNK hk9 hf9 ht9 mV Ud Qa;gi_wp2_with fail
         case roundEnd =>
          rename_i h0
          exfalso
          simp at h0;omega
         clear hkx hkn hki zhc;refine ⟨trivial,?_⟩;refine (CallsIn.inRound l (callsIn_wide.2 RY.out)).mono ?_;rintro e wn ⟨rfl,hkk,hmm,zik⟩;have Tn:=T9.kept hkk (.inl (.inl bZ.out));have Pn:=P9.kept hkk (.inl (.inl bY.out));have Sn:=S9.kept hkk (.inl (.inl HMS.out));have On:=O9.kept hkk (.inl (.inl mQ.out));have Xn:=X9.kept hkk (.inl (.inr rfl));have Bn:=B9.kept hkk (.inr rfl)
         have zwi:∀ j,Also P (g+1+1) j->Also (Also (More P w W4) Bx) wr.heap.size j:=fun j hj=>by
          rcases hj with hj|hj
          · exact .inl (.inl (.inl hj))
          · subst hj;exact .inl (.inl HMV.out)
         have zxt:Z9 (Also P (g+1+1)) W wn:=HNK.out.trans (hkk.mono zwi);have zgy:KeepsFrom W4.heap.size W wn:=cu.out.trans (hmm.from Ga.out);have hE9:∀ j,Also P (g+1+1) j->j<wn.drew.heap.size:=fun j hj=>Nat.lt_of_lt_of_le (Lf.out j hj) (Nat.le_trans hszW zxt.size);have sQ:=hide (TF.out wn.drew ((HW.out.kept (NV.out.trans ((hB1.trans zxt).mono fun j h=>.inl h)) Jp.out).step (ZV (Below.refl _ _))));clear hkk hmm zwi HNK cu TF RY T9 P9 S9 O9 X9 B9 e0 e1 t9 nu a0 a1;gi_wp2_with fail;refine Yz 12 (S:=fun w'=>Z7 w' g 2 #[.int .i64 (Z4 ps)]/\Z7 w' Bx 301 #[.int .i64 (x:Int),.int .i64 (nx:Int),.int .i64 (ZX ps x).1,.int .i64 (ZX ps x).2,.int .i64 (ZX ps nx).1,.int .i64 (ZX ps nx).2]/\Z7 w' wr.heap.size 41 #[.int .i64 (ZX ps k).1,.int .i64 (ZX ps k).2]/\Z7 w' (g+1) 44 #[.int .u64 (ZH vk)]) Yv ?_;have hS:Z7 wn.drew g 2 #[.int .i64 (Z4 ps)]/\Z7 wn.drew Bx 301 #[.int .i64 (x:Int),.int .i64 (nx:Int),.int .i64 (ZX ps x).1,.int .i64 (ZX ps x).2,.int .i64 (ZX ps nx).1,.int .i64 (ZX ps nx).2]/\Z7 wn.drew wr.heap.size 41 #[.int .i64 (ZX ps k).1,.int .i64 (ZX ps k).2]/\Z7 wn.drew (g+1) 44 #[.int .u64 (ZH vk)]:=⟨Sn,Xn,Bn,On⟩;refine' Z0 (i:=0) rfl ?VK hS ?Uz
         case VK =>
          intro w' hSw;obtain ⟨s1,s2,s3,s4⟩:=hSw;have z1:=s1.q0 rfl;have z2:=s2.q2 rfl;have z3:=s2.q3 rfl;have z4:=s2.q4 rfl;have z5:=s2.q5 rfl;have z6:=s3.q0 rfl;have z7:=s3.q1 rfl;have z8:=s4.q0 rfl;go_simp;rfl
         simp only [Act.put,getElem_toArray,getElem_cons_zero,setIfInBounds_toArray,set_cons_zero,set_cons_succ];refine' Z0 (i:=1) rfl ?VL hS ?UA
         case VL =>
          intro w' hSw;go_simp;rfl
         simp only [Act.put,Z6];refine' Z0 (i:=2) rfl ?VN hS ?UC
         case VN =>
          intro w' hSw;obtain ⟨s1,s2,s3,s4⟩:=hSw;have z1:=s1.q0 rfl;have z2:=s2.q2 rfl;have z3:=s2.q3 rfl;have z4:=s2.q4 rfl;have z5:=s2.q5 rfl;have z6:=s3.q0 rfl;have z7:=s3.q1 rfl;have z8:=s4.q0 rfl;go_simp;rfl
         simp only [Act.put,Z6];refine' Z0 (i:=3) rfl ?U1 hS ?Tm
         case U1 =>
          intro w' hSw;go_simp;rfl
         simp only [Act.put,Z6];refine' Z0 (i:=4) rfl ?Oz hS ?LG
         case Oz =>
          intro w' hSw;obtain ⟨s1,s2,s3,s4⟩:=hSw;have z1:=s1.q0 rfl;have z2:=s2.q2 rfl;have z3:=s2.q3 rfl;have z4:=s2.q4 rfl;have z5:=s2.q5 rfl;have z6:=s3.q0 rfl;have z7:=s3.q1 rfl;have z8:=s4.q0 rfl;go_simp;rfl
         simp only [Act.put,Z6];refine' Z0 (i:=5) rfl ?OB hS ?LH
         case OB =>
          intro w' hSw;obtain ⟨s1,s2,s3,s4⟩:=hSw;have z1:=s1.q0 rfl;have z2:=s2.q2 rfl;have z3:=s2.q3 rfl;have z4:=s2.q4 rfl;have z5:=s2.q5 rfl;have z6:=s3.q0 rfl;have z7:=s3.q1 rfl;have z8:=s4.q0 rfl;go_simp;rfl
         simp only [Act.put,Z6];refine' Z0 (i:=8) rfl ?ziv hS ?zek
         case ziv =>
          intro w' hSw;obtain ⟨s1,s2,s3,s4⟩:=hSw;have z1:=s1.q0 rfl;have z2:=s2.q2 rfl;have z3:=s2.q3 rfl;have z4:=s2.q4 rfl;have z5:=s2.q5 rfl;have z6:=s3.q0 rfl;have z7:=s3.q1 rfl;have z8:=s4.q0 rfl;go_simp;rfl
         simp only [Act.put,Z6];refine' Z0 (i:=9) rfl ?ziy hS ?zen
         case ziy =>
          intro w' hSw;go_simp;rfl
         simp only [Act.put,Z6];refine Zc (i:=6) (by kernel_rfl) rfl ?_;intro K hK;rw [if_pos (by rfl)];go_simp;refine ⟨trivial,?_⟩;refine (CallsIn.inRound l (callsIn_wide.2 sQ.out)).mono ?_;rintro e RL ⟨rfl,VI⟩;have hS1:Z7 RL g 2 #[.int .i64 (Z4 ps)]/\Z7 RL Bx 301 #[.int .i64 (x:Int),.int .i64 (nx:Int),.int .i64 (ZX ps x).1,.int .i64 (ZX ps x).2,.int .i64 (ZX ps nx).1,.int .i64 (ZX ps nx).2]/\Z7 RL wr.heap.size 41 #[.int .i64 (ZX ps k).1,.int .i64 (ZX ps k).2]/\Z7 RL (g+1) 44 #[.int .u64 (ZH vk)]:=⟨Sn.drew.step VI,Xn.drew.step VI,Bn.drew.step VI,On.drew.step VI⟩;refine hK.out _ _ (fun _=>hS1) ?_;clear hK K
         (try simp only [Act.put,Z6])
         refine' Z0 (i:=7) rfl ?ziu hS1 ?zej
         case ziu =>
          intro w' hSw;go_simp;rfl
         simp only [Act.put,Z6];have HEQ:=hide (wN os (Z4 ps) D9 (WW ps) RL);refine Zc (i:=10) (by kernel_rfl) rfl ?_;intro K hK;rw [if_pos (by rfl)];go_simp;refine ⟨trivial,?_⟩;refine (CallsIn.inRound l (callsIn_wide.2 HEQ.out)).mono ?_;rintro e w' ⟨rfl,rfl⟩;refine hK.out _ _ (fun _=>hS1) ?_;clear hK K;have hand:=Lx vk (decide (os=Z4 ps))
         (try simp only [Act.put,Z6])
         refine' Z0 (i:=11) rfl ?zyg hS1 ?znd
         case zyg =>
          intro w' hSw;go_simp;rfl
         simp only [Act.put,Z6];obtain ⟨s10,x10,b10,o10⟩:=hS1;have c7:RL.cell? ⟨g+1,0,none⟩=some (.int .u64 (ZH vk)):=o10.q0 rfl;have f7:=o10.frozen 0;refine Zc (i:=12) (by kernel_rfl) rfl ?_;intro K hK;rw [if_pos (by rfl)];go_simp;refine hK.out _ _ (fun h=>absurd rfl h) ?_;clear hK K;refine Yc (by kernel_rfl) ?_ _;have hk10:Z9 (Also P (g+1+1)) W (RL.setCell ⟨g+1,0,none⟩ (.int .u64 (ZH (vk && decide (os=Z4 ps))))):=zxt.trans ((Z9.drew _ _).trans ((Z9.of_below VI hE9).trans (Z9.setCell RO.out _ _ _)));have zgw:KeepsFrom W4.heap.size W (RL.setCell ⟨g+1,0,none⟩ (.int .u64 (ZH (vk && decide (os=Z4 ps))))):=zgy.trans ((KeepsFrom.of_below (ZV (Below.refl _ _))).trans ((KeepsFrom.of_below VI).trans ((KeepsOthers.setCell _ _ _).from _)));have T10:=(Tn.drew.step VI).far (p:=⟨g+1,0,none⟩) (by dsimp only;omega) (.int .u64 (ZH (vk && decide (os=Z4 ps))));have P10:=(Pn.drew.step VI).far (p:=⟨g+1,0,none⟩) (by dsimp only;omega) (.int .u64 (ZH (vk && decide (os=Z4 ps))));have S10:=s10.far (p:=⟨g+1,0,none⟩) (by dsimp only;omega) (.int .u64 (ZH (vk && decide (os=Z4 ps))));have X10:=x10.far (p:=⟨g+1,0,none⟩) (by dsimp only;omega) (.int .u64 (ZH (vk && decide (os=Z4 ps))));have O10:=o10.set 0 (.int .u64 (ZH (vk && decide (os=Z4 ps))));have t10:=(zik.drew.step VI).set (.inl (.inl mQ.out)) 0 (.int .u64 (ZH (vk && decide (os=Z4 ps))));have Ue:=hide (WL.out _ ⟨T10,P10,S10⟩ O10 X10 hk10 zgw t10);clear T10 P10 S10 X10 O10 hk10 zgw t10 hand c7 f7 s10 x10 b10 o10 hS VI Tn Pn Sn Xn On Bn zxt zgy zik hE9 WL sQ HEQ;gi_wp2;go_roundw
         case rel=>exact ⟨k+1,by omega,by go_num,Ue.out⟩
         case measure=>simp [intOf];omega
   · obtain rfl:k=ps.length:=(by omega);have HIV:=hide Or;rw [<- vM.out] at HIV;have zqt:=htr.mono (R:=More P w W4) fun j h=>.inl h;rw [List.append_assoc,<- HVE.out] at zqt;have dR:=hide (show KeepsFrom W4.heap.size W wr/\Z9 (Also P (g+1+1)) W wr/\(((Z7 wr w.heap.size 193 #[.pointer (ZG t)]/\Z7 wr (w.heap.size+1) 36 #[.slice (some ⟨b,off,none⟩) ps.length c])/\Z7 wr g 2 #[.int .i64 (Z4 ps)])/\Z7 wr (g+1) 44 #[.int .u64 (ZH (vF (Z4 ps) ps (pre++[x])))])/\(Z9 (Also P (g+1+1)) W4 wr/\Tp wr (More P w W4) t (es++RX ps.length (pre++[x]))) from ⟨hfr,hkr,⟨⟨⟨Tr,Pr⟩,Sr⟩,HIV.out⟩,hB1.trans hkr,zqt⟩);clear Tr Pr Sr Or Xr hkr hfr htr zqt HIV;gi_wp2;exact dR.out
 case done =>
  rintro D zs W hD rfl ⟨⟨⟨⟨T1,P1⟩,S1⟩,O1⟩,hB1,hT1⟩ hK;have o1:=O1.q0 rfl;have hB2:Z9 P w W:=NV.out.trans (hB1.mono fun k h=>.inl h);gi_wp2;refine ⟨by simp,.inl ⟨_,_,rfl,run_takeDeferred hK,?_⟩⟩;refine ⟨_,results_tmp rfl _ _ _,rfl,hB2.trans (Z9.putObj _ (fun h=>?_) _),?_⟩
  · have:=Lf.out D (.inl h);omega
  · exact (hT1.mono (R:=P) fun k h=>.inl h).putObj (fun u hu=>Nat.lt_of_lt_of_le (Ga.out u hu) hD) hK rfl _
 case stop =>
  rintro D c pre W _ _ h _;exact h.elim
end
section
open Go.RowKit
theorem OJ(l:List Nat):(Yo l).length=l.length:=by simp [Yo]
theorem NS(n k:Nat):(RX n (List.range k)).length<=k*n:=by
 have h:=TB n (List.range k);rwa [List.length_range] at h
theorem Ih(n:Nat):(RX n (List.range (Zy n))).length<=4096:=by
 have h:=NS n (Zy n)
 by_cases h64:3<=n/\n<=64
 · have e:Zy n=n:=(by unfold Zy;rw [if_pos h64]);rw [e] at h ⊢;exact Nat.le_trans h (Nat.mul_le_mul h64.2 h64.2)
 · have e:Zy n=0:=(by unfold Zy;rw [if_neg h64]);rw [e] at h ⊢;omega
def Oy(v:Int):List Ev:=if v=0 then [(4,0,2)] else RX v.toNat (List.range (Zy v.toNat))
def PN:Nat->List Rg->List Ev
 | _,[]=>[]
 | i,r::rs=>(7,(i:Int),0)::(Oy r.v++PN (i+1) rs)
theorem GZ:∀ (i:Nat) (l:List Rg) (r:Rg),PN i (l++[r])=PN i l++((7,((i+l.length:Nat):Int),0)::Oy r.v)
 | i,[],r=>by simp [PN]
 | i,x::l,r=>by
   have h:=GZ (i+1) l r;have e:i+1+l.length=i+(x::l).length:=(by simp;omega);rw [List.cons_append,PN,h,PN,e];simp
theorem EO(v:Int):(Oy v).length<=4096:=by
 unfold Oy;split
 · simp
 · have h:=Ih v.toNat;exact h
theorem Rh:∀ (i:Nat) (l:List Rg),(PN i l).length<=4097*l.length
 | i,[]=>by simp [PN]
 | i,x::l=>by
   have h:=Rh (i+1) l;have h2:=EO x.v;simp only [PN,List.length_cons,List.length_append];omega
def Ov(v:Int):List Ev:=if v=0 then [(6,0,0)] else Yo (List.range (Zy v.toNat))
def Qv:Nat->List Rg->List Ev
 | _,[]=>[]
 | i,r::rs=>(7,(i:Int),1)::(Ov r.v++Qv (i+1) rs)
theorem GX:∀ (i:Nat) (l:List Rg) (r:Rg),Qv i (l++[r])=Qv i l++((7,((i+l.length:Nat):Int),1)::Ov r.v)
 | i,[],r=>by simp [Qv]
 | i,x::l,r=>by
   have h:=GX (i+1) l r;have e:i+1+l.length=i+(x::l).length:=(by simp;omega);rw [List.cons_append,Qv,h,Qv,e];simp
end
section
open Go.RowKit Go.Shelf
def evH(op vs:Int)(hrs:List Rg):List Ev :=
 if op=3 then RX vs.toNat (List.range (Zy vs.toNat))++Yo (List.range (Zy vs.toNat)) else if op=4 then PN 0 hrs++Qv 0 hrs else []
end
end Go.Proofs.YthnenedoblncjaaGreatDoor