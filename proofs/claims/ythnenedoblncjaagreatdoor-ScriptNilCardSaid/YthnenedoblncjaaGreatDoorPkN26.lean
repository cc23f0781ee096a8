/- Valid -/
import Derived.ChangeAlike
import Derived.Scope
import Derived.Test.YthnenedoblncjaaGreatDoorPkN25
set_option maxRecDepth 1000000
set_option maxHeartbeats 8000000
namespace Go.Proofs.YthnenedoblncjaaGreatDoor
open Go.Proofs.Tryz
open List (getElem_toArray getElem_cons_succ getElem_cons_zero setIfInBounds_toArray set_cons_zero set_cons_succ)
section
open Go.RowKit Go.Shelf
attribute [local go_sem] Oper.semAt_some
section
variable {F:Fence}{n:Nat}{P:Program}{b:Frame}{a:Act}{k:List Item}{cs:List Frame}{w:World}{Q:Exit->Act->World->Prop}
theorem YJ{c:Code}:step P (lone (b.atR a (.code (.scope c)::k)) cs w)=.next (lone (b.atR a (.code c::.inScope c::k)) cs w) :=
 step_lone_go (by simp [stepG,stepG.exec,Frame.atR])
theorem R9{c:Code}:step P (lone (b.atR a (.inScope c::k)) cs w)=.next (lone (b.atR a k) cs w) :=
 step_lone_go (by simp [stepG,stepG.exec,Frame.atR])
theorem Yf{c:Code}(h:c.wpIn F n P (Exit.noGoto Q) a w):(Code.scope c).wpIn F n P Q a w:=by
 intro b k cs hro hb hr;have h0:(lone (b.atR a (.code (.scope c)::k)) cs w).fenced P F:=fenced_calm hb hr rfl;obtain ⟨e,a₁,w₁,hq,harr⟩:=h b (.inScope c::k) cs hro hb hr;cases e with
 | normal=>exact ⟨.normal,a₁,w₁,hq,.head h0 YJ (StepsIn.trans harr (.one (fenced_calm hb hr rfl) R9))⟩
 | exit id =>
   have hx:exitTo id (.inScope c::k)=exitTo id k:=by simp [exitTo]
   exact ⟨.exit id,a₁,w₁,hq,fun k' hk=>.head h0 YJ (harr.1 k' (by rw [hx];exact hk)),
    fun hr' hk=>let ⟨k₁,h1,h2⟩:=harr.2 hr' (by rw [hx];exact hk);⟨k₁,h1,.head h0 YJ h2⟩⟩
 | goto l=>exact hq.elim
 | ret=>exact ⟨_,a₁,w₁,hq,.of_steps (.one h0 YJ) harr⟩
 | panic ch=>exact ⟨_,a₁,w₁,hq,.of_steps (.one h0 YJ) harr⟩
 | outgrown=>exact ⟨_,a₁,w₁,hq,.of_steps (.one h0 YJ) harr⟩
end
theorem TP(a b:Bool):bits BinOp.and IntKind.u64 (ZU a) (ZU b)=ZU (a && b):=by cases a <;> cases b <;> decide
theorem VU(a:Bool):bits BinOp.xor IntKind.u64 IntKind.u64.max (ZU a)=ZU (!a):=by cases a <;> decide
def oW(s:Int)(ps:List Pt)(i j:Nat):Bool :=
 decide (j=i) || decide (j=(i+1) % ps.length) || decide ((ZL (Z5 ps i) (Z5 ps ((i+1) % ps.length)) (Z5 ps j)).sign=s)
def Yq(s:Int)(ps:List Pt)(i:Nat)(v:Bool)(k:Nat):Bool:=(List.range k).foldl (fun v j=>v && oW s ps i j) v
theorem O8(s:Int)(ps:List Pt)(i:Nat)(v:Bool)(k:Nat):Yq s ps i v (k+1)=(Yq s ps i v k && oW s ps i k):=by
 simp [Yq,List.range_succ]
def vF(s:Int)(ps:List Pt)(pre:List Nat):Bool:=pre.foldl (fun v i=>Yq s ps i v ps.length) (!decide (s=0))
theorem FK(s:Int)(ps:List Pt)(pre:List Nat)(i:Nat):vF s ps (pre++[i])=Yq s ps i (vF s ps pre) ps.length:=by simp [vF]
def TF(ps:List Pt):Bool:=vF (Z7 ps) ps (List.range (Zw ps.length))
theorem QT{a b:Int}(h0:0<=a)(h1:a<18446744073709551616)(h2:0<=b)(h3:b<18446744073709551616):0<=bits BinOp.xor IntKind.u64 a b/\bits BinOp.xor IntKind.u64 a b<18446744073709551616/\(bits BinOp.xor IntKind.u64 a b=0 ↔ a=b):=by
 rw [u64_xor a b h0 h1 h2 h3];have hx:a.toNat ^^^ b.toNat<2 ^ 64:=Nat.xor_lt_two_pow (by omega) (by omega);refine ⟨by omega,by omega,?_⟩;constructor
 · intro h;have h':a.toNat ^^^ b.toNat=0:=(by omega);have e:b.toNat=a.toNat ^^^ (a.toNat ^^^ b.toNat):=(by rw [<- Nat.xor_assoc,Nat.xor_self,Nat.zero_xor]);rw [h',Nat.xor_zero] at e;omega
 · rintro rfl;simp
theorem Ra(a b:Int)(h0:0<=a)(h1:a<18446744073709551616)(h2:0<=b)(h3:b<18446744073709551616)(w:World):Calls prog 260 #[.int .u64 a,.int .u64 b] w fun e w'=>e=.returned (.int .u64 (ZU (decide (a=b))))/\w=w':=by
 obtain ⟨x0,x1,x2⟩:=QT h0 h1 h2 h3;have HZ:=hide (Xq (bits BinOp.xor IntKind.u64 a b) x0 x1 w);have e:decide (bits BinOp.xor IntKind.u64 a b=0)=decide (a=b):=by simp only [x2]
 rw [e] at HZ;clear e x2 x0 x1;go_enter func260,ntmps260;go_wp2_with fail;refine HZ.out.mono ?_;rintro e w' ⟨rfl,rfl⟩;go_wp2;go_ret;exact ⟨rfl,rfl⟩
theorem Yw{x y:Int}(hx:x=-1\/x=0\/x=1)(hy:y=-1\/y=0\/y=1):(0<=IntKind.u64.wrap x/\IntKind.u64.wrap x<18446744073709551616)/\decide (IntKind.u64.wrap x=IntKind.u64.wrap y)=decide (x=y):=by
 rcases hx with rfl|rfl|rfl <;> rcases hy with rfl|rfl|rfl <;> decide
theorem ML(x y:Int)(hx:x=-1\/x=0\/x=1)(hy:y=-1\/y=0\/y=1)(w:World):Calls prog 260 #[.int .u64 (IntKind.u64.wrap x),.int .u64 (IntKind.u64.wrap y)] w fun e w'=>e=.returned (.int .u64 (ZU (decide (x=y))))/\w=w':=by
 have h:=Ra _ _ (Yw hx hx).1.1 (Yw hx hx).1.2 (Yw hy hy).1.1 (Yw hy hy).1.2 w;rw [(Yw hx hy).2] at h;exact h
theorem YM(ps:List Pt):Z7 ps=-1\/Z7 ps=0\/Z7 ps=1:=by
 rw [<- WY];exact Yd _
def Rb(x nx k:Nat):List Ev:=((List.range k).filter fun j=>!(decide (j=x) || decide (j=nx))).map fun (j:Nat)=>(4,(x:Int),(j:Int))
theorem OI{x nx k:Nat}(h:k=x\/k=nx):Rb x nx (k+1)=Rb x nx k:=by
 unfold Rb;rw [List.range_succ,List.filter_append];have e:(!(decide (k=x) || decide (k=nx)))=false:=by rcases h with h|h <;> simp [h]
 simp [List.filter,e]
theorem G9{x nx k:Nat}(h:k≠x)(h':k≠nx):Rb x nx (k+1)=Rb x nx k++[(4,(x:Int),(k:Int))]:=by
 unfold Rb;rw [List.range_succ,List.filter_append];simp [List.filter,h,h']
theorem Sz(x nx k:Nat):(Rb x nx k).length<=k:=by
 unfold Rb;rw [List.length_map];exact Nat.le_trans (List.length_filter_le _ _) (by simp)
def Uy(n:Nat)(pre:List Nat):List Ev:=pre.flatMap fun x=>Rb x ((x+1) % n) n
theorem Jp(n:Nat)(pre:List Nat)(x:Nat):Uy n (pre++[x])=Uy n pre++Rb x ((x+1) % n) n:=by simp [Uy]
theorem Vv(n:Nat):∀ pre:List Nat,(Uy n pre).length<=pre.length*n
 | []=>by simp [Uy]
 | x::r=>by
   have h1:=Vv n r;have h2:=Sz x ((x+1) % n) n;have e:Uy n (x::r)=Rb x ((x+1) % n) n++Uy n r:=(by simp [Uy]);rw [e,List.length_append,List.length_cons,Nat.add_mul];omega
theorem Lf(P:Nat->Prop)(t:Option (Nat × Nat))(es:List Ev)(ps:List Pt)(hps:Lj ps)(hn:ps.length<=10000)(A:Option Addr)(c:Nat)(w:World)(hP:∀ k,P k->k<w.heap.size)(hg0:P 8)(hs:Wx w P A (Y7 ps))(hw:MW w)(ht:Tp w P t es)(hl:es.length<=900000):
 Calls prog 192 #[.pointer (ZT t),.slice A ps.length c] w fun e w'=>e=.returned (.int .u64 (ZU (TF ps)))/\Z9 P w w'/\Tp w' P t (es++Uy ps.length (List.range (Zw ps.length))):=by
 obtain ⟨w0,hw0⟩:=eE ((w.alloc (.cells #[.pointer (ZT t)] 193)).alloc (.cells #[.slice A ps.length c] 36));have hb0:=bF hw0;have T0:Z6 w0 w.heap.size 193 #[.pointer (ZT t)]:=by rw [hw0];exact (Z6.new _ _ _).alloc _
 have P0:Z6 w0 (w.heap.size+1) 36 #[.slice A ps.length c]:=by rw [hw0];exact Z6.new2 _ _ _ _
 have Gh:=hide (WI ps hps hn A c w0 (((hs.sl hP).below hb0).more hb0.size) (hw.step hb0));have v0:w0.cell? ⟨w.heap.size+1,0,none⟩=some (.slice A ps.length c):=P0.q0 rfl;refine (callsIn_wide (n:=6)).1 ?_;refine callsIn_of_wp_marks func192 rfl trivial ?_ rfl;simp only [ntmps192,List.size_toArray,List.length_cons,List.length_nil,Nat.reduceAdd,Nat.reduceSub,Array.replicate_succ,Array.replicate_zero,List.push_toArray,List.append_toArray,List.nil_append,List.cons_append];gi_wp2_with fail;rw [<- hw0];have HW0:=hide hw0;clear hw0;refine ⟨trivial,?_⟩;refine (callsIn_wide.2 Gh.out).mono ?_;rintro e w1 ⟨rfl,hb1⟩;obtain ⟨g,hg⟩:=eE w1.heap.size;have P1:=P0.step hb1;have v1:w1.cell? ⟨w.heap.size+1,0,none⟩=some (.slice A ps.length c):=P1.q0 rfl;have DI:=hide (Xq (IntKind.u64.wrap (Z7 ps)) (Yw (YM ps) (YM ps)).1.1 (Yw (YM ps) (YM ps)).1.2 (w1.alloc (.cells #[.int .i64 (Z7 ps)] 2)));rw [(Yo (show -1<=Z7 ps by rcases YM ps with h|h|h <;> omega) (by rcases YM ps with h|h|h <;> omega)).2] at DI;have hnot:=VU (decide (Z7 ps=0));have v2:((w1.alloc (.cells #[.int .i64 (Z7 ps)] 2)).alloc (.cells #[.int .u64 (ZU (!decide (Z7 ps=0)))] 44)).cell? ⟨w.heap.size+1,0,none⟩=some (.slice A ps.length c):=((P1.alloc _).alloc _).q0 rfl;gi_wp2_with fail;refine ⟨trivial,?_⟩;refine (callsIn_wide.2 DI.out).mono ?_;rintro e w2' ⟨rfl,rfl⟩;gi_wp2_with fail;refine ⟨trivial,?_⟩;refine (callsIn_wide.2 (Q9 _ A ps.length c rfl _)).mono ?_;rintro e w3 ⟨rfl,rfl⟩;have hs2:((w1.alloc (.cells #[.int .i64 (Z7 ps)] 2)).alloc (.cells #[.int .u64 (ZU (!decide (Z7 ps=0)))] 44)).heap.size=g+1+1:=by simp [hg]
 rw [hs2];have G0:Z6 (((w1.alloc (.cells #[.int .i64 (Z7 ps)] 2)).alloc (.cells #[.int .u64 (ZU (!decide (Z7 ps=0)))] 44)).alloc (.cells #[.slice A ps.length c] 36)) g 2 #[.int .i64 (Z7 ps)]:=by rw [hg];exact ((Z6.new _ _ _).alloc _).alloc _
 have G1:Z6 (((w1.alloc (.cells #[.int .i64 (Z7 ps)] 2)).alloc (.cells #[.int .u64 (ZU (!decide (Z7 ps=0)))] 44)).alloc (.cells #[.slice A ps.length c] 36)) (g+1) 44 #[.int .u64 (ZU (!decide (Z7 ps=0)))]:=by rw [hg];exact (Z6.new2 _ _ _ _).alloc _
 have G2:Z6 (((w1.alloc (.cells #[.int .i64 (Z7 ps)] 2)).alloc (.cells #[.int .u64 (ZU (!decide (Z7 ps=0)))] 44)).alloc (.cells #[.slice A ps.length c] 36)) (g+1+1) 36 #[.slice A ps.length c]:=by
  have h2:=Z6.new ((w1.alloc (.cells #[.int .i64 (Z7 ps)] 2)).alloc (.cells #[.int .u64 (ZU (!decide (Z7 ps=0)))] 44)) 36 #[.slice A ps.length c];rw [hs2] at h2;exact h2
 have hb4:Below w1.heap.size w1 (((w1.alloc (.cells #[.int .i64 (Z7 ps)] 2)).alloc (.cells #[.int .u64 (ZU (!decide (Z7 ps=0)))] 44)).alloc (.cells #[.slice A ps.length c] 36)):=ZY (ZY (bA) _) _;have hs4:(((w1.alloc (.cells #[.int .i64 (Z7 ps)] 2)).alloc (.cells #[.int .u64 (ZU (!decide (Z7 ps=0)))] 44)).alloc (.cells #[.slice A ps.length c] 36)).heap.size=g+3:=by simp [hg]
 obtain ⟨W4,Hw⟩:∃ W4,(((w1.alloc (.cells #[.int .i64 (Z7 ps)] 2)).alloc (.cells #[.int .u64 (ZU (!decide (Z7 ps=0)))] 44)).alloc (.cells #[.slice A ps.length c] 36))=W4:=⟨_,rfl⟩;rw [Hw] at G0 G1 G2 hb4 hs4;gi_wp2_with fail;rw [<- hg];have hB4:Below w.heap.size w W4:=Z8 (Z8 hb0 hb1) hb4;have hgw:w.heap.size+2<=g:=by
  have h1:=hb1.size;have h2:w0.heap.size=w.heap.size+2:=by rw [HW0.out];simp
  omega
 have T4:=(T0.step hb1).step hb4;have P4:=(P0.step hb1).step hb4;have Og:=hide hps;have HW:=hide hw;have HSL:=hide (hs.kept (Z9.of_below hB4 hP))
 have TK:∀ k,Also P (g+1+1) k->k<W4.heap.size:=fun k hk=>by
  rcases hk with hk|hk
  · exact Nat.lt_of_lt_of_le (hP k hk) hB4.size
  · omega
 have sZ:=ht.more hB4;have hmb:∀ u,t=some u->u.2<W4.heap.size:=fun u hu=>Nat.lt_of_lt_of_le (ht.BR u hu) hB4.size;have hE1:¬ Also P (g+1+1) (g+1):=by
  rintro (h|h)
  · have:=hP _ h;omega
  · omega
 have hM:∀ k,w.heap.size<=k->k<g+3->More P w W4 k:=fun k h1 h2=>.inr ⟨h1,by omega⟩;have FY:=hide (hM w.heap.size (by omega) (by omega));have FX:=hide (hM (w.heap.size+1) (by omega) (by omega));have Cv:=hide (hM g (by omega) (by omega));have Jw:=hide (hM (g+1) (by omega) (by omega));have mP:=hide (hM (g+1+1) (by omega) (by omega));have xX:Z9 P w W4:=Z9.of_below hB4 hP;have Hu:∀ k,Also P (g+1+1) k->k<W4.heap.size/\k<W4.heap.size:=fun k hk=>⟨TK k hk,TK k hk⟩;have sQ:∀ k,More P w W4 k->k<W4.heap.size:=XZ hP hB4;have Jv:=hide hE1;have Sd:=hide TK;have Md:=hide hmb;have r9:=hide sZ;have Ui:=hide xX;have rO:=hide Hu;have yY:=hide sQ;have Sj:=hide hg0;have rP:=hide (show ∀ k,P k->k<W4.heap.size from fun k hk=>TK k (.inl hk));clear hE1 TK hmb sZ hM xX Hu sQ hg0 ht hP;clear Hw hg hs2 DI Gh T0 P0 P1 v0 v1 v2 hps hw hs hb0 hb1 hb4 HW0 hnot hB4
 refine wpIn_rangeFunc_ownH rfl (by omega) (gf:=304) (lb:=#[.pointer (some ⟨g+1+1,0,none⟩)]) rfl trivial (enters_of func304 (by kernel_rfl) rfl)
  (Uo 5 (by omega) (g+1+1) (Also P (g+1+1)) ps A c W4 Sd.out (.inr rfl) G2 (HSL.out.mono fun k h=>.inl h)) Z9.trans (fun W l o o' hl _ _ _=>Z9.putObj o' (fun h=>by have:=Sd.out _ h;omega) W) (Below.refl _ _) (fun _=>rfl)
  (fun pre W=>(((Z6 W w.heap.size 193 #[.pointer (ZT t)]/\Z6 W (w.heap.size+1) 36 #[.slice A ps.length c])/\Z6 W g 2 #[.int .i64 (Z7 ps)])/\Z6 W (g+1) 44 #[.int .u64 (ZU (vF (Z7 ps) ps pre))])/\(Z9 (Also P (g+1+1)) W4 W/\Tp W (More P w W4) t (es++Uy ps.length pre)))
  (fun _ _ _=>False)
  (OwnFrom.and (OwnFrom.and (OwnFrom.and (OwnFrom.and (Own.from (Y8 _ _ _) _) (Own.from (Y8 _ _ _) _)) (Own.from (Y8 _ _ _) _)) (Own.from (Y8 _ _ _) _)) (OwnFrom.and (Xz rO.out) (YP _ (More P w W4) t (fun pre=>es++Uy ps.length pre) Md.out)))
  (fun _ _ _ _ _ hs _ _=>hs)
  ⟨⟨⟨⟨T4,P4⟩,G0⟩,G1⟩,Z9.refl _ _,by simpa [Uy] using r9.out⟩
  (fun x a' W=>∃ Bx es',g+1<Bx/\Tp W (Also (More P w W4) Bx) t es'/\Z6 W Bx 301 #[.int .i64 (x:Int),.int .i64 (((x:Int)+1) % (ps.length:Int)),.int .i64 (Z5 ps x).1,.int .i64 (Z5 ps x).2,.int .i64 (Z5 ps ((x+1) % ps.length)).1,.int .i64 (Z5 ps ((x+1) % ps.length)).2]/\a'={ tmps:=#[.pointer (ZT t),.slice A ps.length c,.pointer (some ⟨w.heap.size,0,none⟩),.pointer (some ⟨w.heap.size+1,0,none⟩),.int .u64 0,.pointer (some ⟨g,0,none⟩),.pointer (some ⟨g+1,0,none⟩),.pointer (some ⟨Bx,0,none⟩),undef,undef,.slice A ps.length c,.int .i64 (Z7 ps),.int .i64 (Z7 ps),.int .u64 (IntKind.u64.wrap (Z7 ps)),.int .u64 (ZU (decide (Z7 ps=0))),.int .u64 (ZU (!decide (Z7 ps=0))),.slice A ps.length c,.func (.func 304) #[] #[.pointer (some ⟨g+1+1,0,none⟩)],.agg #[.int .i64 (x:Int),.int .i64 (((x:Int)+1) % (ps.length:Int)),.int .i64 (Z5 ps x).1,.int .i64 (Z5 ps x).2,.int .i64 (Z5 ps ((x+1) % ps.length)).1,.int .i64 (Z5 ps ((x+1) % ps.length)).2],undef,undef,undef,undef,undef,undef,undef,undef,undef,undef,undef,undef,undef,undef,undef,undef,undef,undef,undef,undef,undef,undef,undef,undef,undef,undef,undef,undef,undef,undef,undef,undef,undef,undef,undef,undef],defers:=[] })
  (fun x a' _ X Y row hs hg hr=>by obtain ⟨Bx,es',h1,hT,h2,h3⟩:=hs;exact ⟨Bx,es',h1,YP _ _ t (fun _:Unit=>es') Md.out () X Y row hT hg hr,Y8 Bx 301 (fun (_:Unit)=>#[.int .i64 (x:Int),.int .i64 (((x:Int)+1) % (ps.length:Int)),.int .i64 (Z5 ps x).1,.int .i64 (Z5 ps x).2,.int .i64 (Z5 ps ((x+1) % ps.length)).1,.int .i64 (Z5 ps ((x+1) % ps.length)).2]) () X Y row h2 hg (fun r e=>(hr r e).2),h3⟩)
  ?assign ?body ?done ?stop
 case assign =>
  rintro l pre x W K ⟨⟨⟨⟨T1,P1⟩,S1⟩,O1⟩,hB1,hT1⟩ hK;have hlt:g+1<W.heap.size:=O1.lt;unfold G8;gi_wp2;have CW:∀ k,Also P (g+1+1) k->k<W.heap.size:=fun k hk=>Nat.lt_of_lt_of_le (Sd.out k hk) hB1.size;refine hK _ _ ((KeepsOthers.alloc _ _).from _) (Z9.of_below (bA) CW) ⟨⟨⟨⟨T1.alloc _,P1.alloc _⟩,S1.alloc _⟩,O1.alloc _⟩,hB1.trans (Z9.of_below (bA) CW),hT1.step (bA)⟩ ⟨W.heap.size,es++Uy ps.length pre,hlt,?_,Z6.new _ _ _,rfl⟩;refine (hT1.add (R:=Also (More P w W4) W.heap.size) fun k hk=>?_).step (bA);rcases hk with hk|hk
  · exact .inl hk
  · exact .inr (by omega)
 case body =>
  rintro l pre x a' W hl _ ⟨⟨⟨⟨T1,P1⟩,S1⟩,O1⟩,hB1,hT1⟩ ⟨Bx,es',hBx,hTx,bX,rfl⟩ hpl;have hszW:W4.heap.size<=W.heap.size:=hB1.size;have Eb:=hT1.with hTx
  clear hT1 hTx;have nV:3<=ps.length/\ps.length<=64:=by
   unfold Zw at hpl;split at hpl
   · assumption
   · omega
  obtain ⟨h3,h64⟩:=nV;have YD:prog.follows .mixedOrders=true:=by kernel_rfl
  obtain ⟨b,off,rfl,hb⟩:=QN (HSL.out.sl rP.out) (by omega);obtain ⟨nx,hnx⟩:=eE ((x+1) % ps.length);have uD:((x:Int)+1) % (ps.length:Int)=(nx:Int):=by rw [hnx];rfl
  obtain ⟨vp,hvp⟩:=eE (vF (Z7 ps) ps pre);have ze:=hide (FK (Z7 ps) ps pre x);rw [<- hvp] at ze O1;rw [uD,<- hnx] at bX ⊢;have Oc:Hid (∀ k,oW (Z7 ps) ps x k=(decide (k=x) || decide (k=nx) || decide ((ZL (Z5 ps x) (Z5 ps nx) (Z5 ps k)).sign=Z7 ps))):=hide fun k=>by rw [hnx];rfl
  have v1:W.cell? ⟨w.heap.size+1,0,none⟩=some (.slice (some ⟨b,off,none⟩) ps.length c):=P1.q0 rfl;have hpre:(es++Uy ps.length pre).length<=910000:=by
   have h1:=Vv ps.length pre;have h2:pre.length<=64:=(by unfold Zw at hpl;split at hpl <;> omega);have h3:pre.length*ps.length<=64*64:=Nat.mul_le_mul h2 h64;rw [List.length_append];omega
  have jZ:=hide (Jp ps.length pre x);rw [<- hnx] at jZ;have Gm:=hide hpre;have zf:=hide Eb;clear hpl hnx uD hvp hpre Eb;gi_wp2_with fail;refine Yf ?_;refine wpIn_seq_k (fun K hK=>wpIn_label ?_);refine hK _ _ ?_;clear hK K;gi_wp2_with fail
  gi_loopw [21] (fun i wr=>∃ k:Nat,k<=ps.length/\i=.int .i64 k/\(Z6 wr w.heap.size 193 #[.pointer (ZT t)]/\Z6 wr (w.heap.size+1) 36 #[.slice (some ⟨b,off,none⟩) ps.length c]/\Z6 wr g 2 #[.int .i64 (Z7 ps)])/\Z6 wr (g+1) 44 #[.int .u64 (ZU (Yq (Z7 ps) ps x vp k))]/\Z6 wr Bx 301 #[.int .i64 (x:Int),.int .i64 (nx:Int),.int .i64 (Z5 ps x).1,.int .i64 (Z5 ps x).2,.int .i64 (Z5 ps nx).1,.int .i64 (Z5 ps nx).2]/\Z9 (Also P (g+1+1)) W wr/\KeepsFrom W4.heap.size W wr/\Tp wr (Also (More P w W4) Bx) t (es++Uy ps.length pre++Rb x nx k))
   (fun i _=>ps.length - (intOf i).toNat)
  case atStart=>exact ⟨0,Nat.zero_le _,rfl,⟨T1,P1,S1⟩,O1,bX,Z9.refl _ _,KeepsFrom.refl _ _,by simpa [Rb] using zf.out⟩
  case round =>
   clear T1 P1 S1 O1 bX v1;obtain ⟨k,hk,rfl,⟨Tr,Pr,Sr⟩,Or,Xr,hkr,hfr,htr⟩:=hrel;have hEr:∀ k,Also P (g+1+1) k->k<wr.heap.size:=fun k hk=>by have:=Sd.out k hk;have:=hkr.size;omega
   by_cases hlt:k<ps.length
   · have RZ:((k:Nat):Int)<((ps.length:Nat):Int):=(by omega);have hsr:=(HSL.out.kept ((hB1.trans hkr).mono fun k h=>.inl h)).sl rP.out;obtain ⟨a0,a1⟩:=RI hsr hlt;obtain ⟨vk,hvk⟩:=eE (Yq (Z7 ps) ps x vp k);have y9:=hide (O8 (Z7 ps) ps x vp k);rw [<- hvk] at y9 Or;obtain ⟨w9,JH⟩:∃ w9,wr.alloc (.cells #[.int .i64 (Z5 ps k).1,.int .i64 (Z5 ps k).2] 41)=w9:=⟨_,rfl⟩;have T9:Z6 w9 w.heap.size 193 #[.pointer (ZT t)]:=(by rw [<- JH];exact Tr.alloc _);have P9:Z6 w9 (w.heap.size+1) 36 #[.slice (some ⟨b,off,none⟩) ps.length c]:=(by rw [<- JH];exact Pr.alloc _);have S9:Z6 w9 g 2 #[.int .i64 (Z7 ps)]:=(by rw [<- JH];exact Sr.alloc _);have O9:Z6 w9 (g+1) 44 #[.int .u64 (ZU vk)]:=(by rw [<- JH];exact Or.alloc _);have X9:Z6 w9 Bx 301 #[.int .i64 (x:Int),.int .i64 (nx:Int),.int .i64 (Z5 ps x).1,.int .i64 (Z5 ps x).2,.int .i64 (Z5 ps nx).1,.int .i64 (Z5 ps nx).2]:=(by rw [<- JH];exact Xr.alloc _);have B9:Z6 w9 wr.heap.size 41 #[.int .i64 (Z5 ps k).1,.int .i64 (Z5 ps k).2]:=(by rw [<- JH];exact Z6.new _ _ _);have zY:Z9 (Also P (g+1+1)) W w9:=(by rw [<- JH];exact hkr.trans (Z9.of_below (bA) hEr));have yh:KeepsFrom W4.heap.size W w9:=(by rw [<- JH];exact hfr.trans (KeepsFrom.of_below (bA)));have e0:w9.cell? ⟨Bx,0,none⟩=some (.int .i64 (x:Int)):=X9.q0 rfl;have e1:w9.cell? ⟨Bx,1,none⟩=some (.int .i64 (nx:Int)):=X9.q1 rfl;have t9:w9.cell? ⟨w.heap.size,0,none⟩=some (.pointer (ZT t)):=T9.q0 rfl;have yw:Tp w9 (Also (Also (More P w W4) Bx) wr.heap.size) t (es++Uy ps.length pre++Rb x nx k):=by
      rw [<- JH];refine (htr.add fun j hj=>?_).step (bA);rcases hj with hj|hj
      · exact .inl hj
      · exact .inr (by omega)
     clear hvk hsr Tr Pr Sr Or Xr hkr hfr htr
     by_cases hkx:k=x
     · have hki:(k:Int)=(x:Int):=(by omega);have HO:Yq (Z7 ps) ps x vp (k+1)=vk:=(by rw [y9.out,Oc.out,decide_eq_true hkx];simp);have zk:=O9;rw [<- HO] at zk;have M7:=yw.mono (R:=Also (More P w W4) Bx) fun j h=>.inl h;rw [<- OI (x:=x) (nx:=nx) (k:=k) (.inl hkx)] at M7;have Xt:=hide (show (Z6 w9 w.heap.size 193 #[.pointer (ZT t)]/\Z6 w9 (w.heap.size+1) 36 #[.slice (some ⟨b,off,none⟩) ps.length c]/\Z6 w9 g 2 #[.int .i64 (Z7 ps)])/\Z6 w9 (g+1) 44 #[.int .u64 (ZU (Yq (Z7 ps) ps x vp (k+1)))]/\Z6 w9 Bx 301 #[.int .i64 (x:Int),.int .i64 (nx:Int),.int .i64 (Z5 ps x).1,.int .i64 (Z5 ps x).2,.int .i64 (Z5 ps nx).1,.int .i64 (Z5 ps nx).2]/\Z9 (Also P (g+1+1)) W w9/\KeepsFrom W4.heap.size W w9/\Tp w9 (Also (More P w W4) Bx) t (es++Uy ps.length pre++Rb x nx (k+1)) from ⟨⟨T9,P9,S9⟩,zk,X9,zY,yh,M7⟩);clear zk HO M7 T9 P9 S9 O9 X9 B9 zY yh yw y9 Oc;rw [hkx] at JH a0 a1;gi_wp2_with fail;go_roundw
       case rel=>exact ⟨k+1,by omega,by go_num,Xt.out⟩
       case measure=>simp [intOf];omega
     · have hki:¬ (k:Int)=(x:Int):=by omega
       by_cases hkn:k=nx
       · have um:(k:Int)=(nx:Int):=(by omega);have HO:Yq (Z7 ps) ps x vp (k+1)=vk:=(by rw [y9.out,Oc.out,decide_eq_true hkn];simp);have zk:=O9;rw [<- HO] at zk;have M7:=yw.mono (R:=Also (More P w W4) Bx) fun j h=>.inl h;rw [<- OI (x:=x) (nx:=nx) (k:=k) (.inr hkn)] at M7;have Xt:=hide (show (Z6 w9 w.heap.size 193 #[.pointer (ZT t)]/\Z6 w9 (w.heap.size+1) 36 #[.slice (some ⟨b,off,none⟩) ps.length c]/\Z6 w9 g 2 #[.int .i64 (Z7 ps)])/\Z6 w9 (g+1) 44 #[.int .u64 (ZU (Yq (Z7 ps) ps x vp (k+1)))]/\Z6 w9 Bx 301 #[.int .i64 (x:Int),.int .i64 (nx:Int),.int .i64 (Z5 ps x).1,.int .i64 (Z5 ps x).2,.int .i64 (Z5 ps nx).1,.int .i64 (Z5 ps nx).2]/\Z9 (Also P (g+1+1)) W w9/\KeepsFrom W4.heap.size W w9/\Tp w9 (Also (More P w W4) Bx) t (es++Uy ps.length pre++Rb x nx (k+1)) from ⟨⟨T9,P9,S9⟩,zk,X9,zY,yh,M7⟩);clear zk HO M7 T9 P9 S9 O9 X9 B9 zY yh yw y9 Oc;rw [hkn] at JH a0 a1;gi_wp2_with fail;go_roundw
         case rel=>exact ⟨k+1,by omega,by go_num,Xt.out⟩
         case measure=>simp [intOf];omega
       · have um:¬ (k:Int)=(nx:Int):=(by omega);obtain ⟨os,hos⟩:=eE ((ZL (Z5 ps x) (Z5 ps nx) (Z5 ps k)).sign);have hO:Yq (Z7 ps) ps x vp (k+1)=(vk && decide (os=Z7 ps)):=(by rw [y9.out,Oc.out,hos,decide_eq_false hkx,decide_eq_false hkn];simp);have Ob:=hide (G9 hkx hkn)
         have YG:=hide (fun (W8:World) (h1:(Z6 W8 w.heap.size 193 #[.pointer (ZT t)]/\Z6 W8 (w.heap.size+1) 36 #[.slice (some ⟨b,off,none⟩) ps.length c]/\Z6 W8 g 2 #[.int .i64 (Z7 ps)])) (h2:Z6 W8 (g+1) 44 #[.int .u64 (ZU (vk && decide (os=Z7 ps)))]) (h3:Z6 W8 Bx 301 #[.int .i64 (x:Int),.int .i64 (nx:Int),.int .i64 (Z5 ps x).1,.int .i64 (Z5 ps x).2,.int .i64 (Z5 ps nx).1,.int .i64 (Z5 ps nx).2]) (h4:Z9 (Also P (g+1+1)) W W8) (h5:KeepsFrom W4.heap.size W W8) (h6:Tp W8 (Also (Also (More P w W4) Bx) wr.heap.size) t (es++Uy ps.length pre++Rb x nx k++[(4,(x:Int),(k:Int))])) =>
          (show (Z6 W8 w.heap.size 193 #[.pointer (ZT t)]/\Z6 W8 (w.heap.size+1) 36 #[.slice (some ⟨b,off,none⟩) ps.length c]/\Z6 W8 g 2 #[.int .i64 (Z7 ps)])/\Z6 W8 (g+1) 44 #[.int .u64 (ZU (Yq (Z7 ps) ps x vp (k+1)))]/\Z6 W8 Bx 301 #[.int .i64 (x:Int),.int .i64 (nx:Int),.int .i64 (Z5 ps x).1,.int .i64 (Z5 ps x).2,.int .i64 (Z5 ps nx).1,.int .i64 (Z5 ps nx).2]/\Z9 (Also P (g+1+1)) W W8/\KeepsFrom W4.heap.size W W8/\Tp W8 (Also (More P w W4) Bx) t (es++Uy ps.length pre++Rb x nx (k+1)) from ⟨h1,by rw [hO];exact h2,h3,h4,h5,by rw [Ob.out,<- List.append_assoc];exact h6.mono fun j h=>.inl h⟩))
         have F8:os=-1\/os=0\/os=1:=by rw [hos];exact Yd _
         have F6:∀ j,Also (Also (More P w W4) Bx) wr.heap.size j->j<w9.heap.size:=fun j hj=>by
          rcases hj with (hj|hj)|hj
          · have:=yY.out j hj;have:=zY.size;omega
          · subst hj;exact X9.lt
          · subst hj;exact B9.lt
         have TW:=hide (fun w9 (hM:MW w9)=>Xm (Z5 ps x) (Z5 ps nx) (Z5 ps k) (Og.out.at_ _) (Og.out.at_ _) (Og.out.at_ _) w9 hM);rw [<- hos] at TW;have hle:(es++Uy ps.length pre++Rb x nx k).length<=1000000:=by
          have:=Sz x nx k;have:=Gm.out;rw [List.length_append];omega
         have Ww:=hide (Yl (Also (Also (More P w W4) Bx) wr.heap.size) t (es++Uy ps.length pre++Rb x nx k) 4 (x:Int) (k:Int) w9 F6 yw hle (by unfold Zj;omega));have p9:Z9 (Also P (g+1+1)) W w9:=zY;have jO:=hide p9;have FZ:=hide yh;clear hO hos F6 hle p9 zY yh yw y9 Oc Ob;gi_wp2_with fail
         case roundEnd =>
          rename_i h0
          exfalso
          simp at h0;omega
         clear hkx hkn hki um;refine ⟨trivial,?_⟩;refine (CallsIn.inRound l (callsIn_wide.2 Ww.out)).mono ?_;rintro e wn ⟨rfl,hkk,hmm,uL⟩;have Tn:=T9.kept hkk (.inl (.inl FY.out));have Pn:=P9.kept hkk (.inl (.inl FX.out));have Sn:=S9.kept hkk (.inl (.inl Cv.out));have On:=O9.kept hkk (.inl (.inl Jw.out));have Xn:=X9.kept hkk (.inl (.inr rfl));have Bn:=B9.kept hkk (.inr rfl)
         have Dl:∀ j,Also P (g+1+1) j->Also (Also (More P w W4) Bx) wr.heap.size j:=fun j hj=>by
          rcases hj with hj|hj
          · exact .inl (.inl (.inl hj))
          · subst hj;exact .inl (.inl mP.out)
         have Eh:Z9 (Also P (g+1+1)) W wn:=jO.out.trans (hkk.mono Dl);have ug:KeepsFrom W4.heap.size W wn:=FZ.out.trans (hmm.from Md.out);have kH:∀ j,Also P (g+1+1) j->j<wn.drew.heap.size:=fun j hj=>Nat.lt_of_lt_of_le (Sd.out j hj) (Nat.le_trans hszW Eh.size);have F3:=hide (TW.out wn.drew ((HW.out.kept (Ui.out.trans ((hB1.trans Eh).mono fun j h=>.inl h)) Sj.out).step (ZV (Below.refl _ _))));clear hkk hmm Dl jO FZ TW Ww T9 P9 S9 O9 X9 B9 e0 e1 t9 JH a0 a1;gi_wp2_with fail;refine YO 12 (S:=fun w'=>Z6 w' g 2 #[.int .i64 (Z7 ps)]/\Z6 w' Bx 301 #[.int .i64 (x:Int),.int .i64 (nx:Int),.int .i64 (Z5 ps x).1,.int .i64 (Z5 ps x).2,.int .i64 (Z5 ps nx).1,.int .i64 (Z5 ps nx).2]/\Z6 w' wr.heap.size 41 #[.int .i64 (Z5 ps k).1,.int .i64 (Z5 ps k).2]/\Z6 w' (g+1) 44 #[.int .u64 (ZU vk)]) YD ?_;have hS:Z6 wn.drew g 2 #[.int .i64 (Z7 ps)]/\Z6 wn.drew Bx 301 #[.int .i64 (x:Int),.int .i64 (nx:Int),.int .i64 (Z5 ps x).1,.int .i64 (Z5 ps x).2,.int .i64 (Z5 ps nx).1,.int .i64 (Z5 ps nx).2]/\Z6 wn.drew wr.heap.size 41 #[.int .i64 (Z5 ps k).1,.int .i64 (Z5 ps k).2]/\Z6 wn.drew (g+1) 44 #[.int .u64 (ZU vk)]:=⟨Sn,Xn,Bn,On⟩;refine' ZW (i:=0) rfl ?Xg hS ?VZ
         case Xg =>
          intro w' hSw;obtain ⟨s1,s2,s3,s4⟩:=hSw;have z1:=s1.q0 rfl;have z2:=s2.q2 rfl;have z3:=s2.q3 rfl;have z4:=s2.q4 rfl;have z5:=s2.q5 rfl;have z6:=s3.q0 rfl;have z7:=s3.q1 rfl;have z8:=s4.q0 rfl;go_simp;rfl
         simp only [Act.put,getElem_toArray,getElem_cons_zero,setIfInBounds_toArray,set_cons_zero,set_cons_succ];refine' ZW (i:=1) rfl ?Xh hS ?V3
         case Xh =>
          intro w' hSw;go_simp;rfl
         simp only [Act.put,Z4];refine' ZW (i:=2) rfl ?Xj hS ?V4
         case Xj =>
          intro w' hSw;obtain ⟨s1,s2,s3,s4⟩:=hSw;have z1:=s1.q0 rfl;have z2:=s2.q2 rfl;have z3:=s2.q3 rfl;have z4:=s2.q4 rfl;have z5:=s2.q5 rfl;have z6:=s3.q0 rfl;have z7:=s3.q1 rfl;have z8:=s4.q0 rfl;go_simp;rfl
         simp only [Act.put,Z4];refine' ZW (i:=3) rfl ?Wm hS ?Vg
         case Wm =>
          intro w' hSw;go_simp;rfl
         simp only [Act.put,Z4];refine' ZW (i:=4) rfl ?SN hS ?QH
         case SN =>
          intro w' hSw;obtain ⟨s1,s2,s3,s4⟩:=hSw;have z1:=s1.q0 rfl;have z2:=s2.q2 rfl;have z3:=s2.q3 rfl;have z4:=s2.q4 rfl;have z5:=s2.q5 rfl;have z6:=s3.q0 rfl;have z7:=s3.q1 rfl;have z8:=s4.q0 rfl;go_simp;rfl
         simp only [Act.put,Z4];refine' ZW (i:=5) rfl ?SQ hS ?QJ
         case SQ =>
          intro w' hSw;obtain ⟨s1,s2,s3,s4⟩:=hSw;have z1:=s1.q0 rfl;have z2:=s2.q2 rfl;have z3:=s2.q3 rfl;have z4:=s2.q4 rfl;have z5:=s2.q5 rfl;have z6:=s3.q0 rfl;have z7:=s3.q1 rfl;have z8:=s4.q0 rfl;go_simp;rfl
         simp only [Act.put,Z4];refine' ZW (i:=8) rfl ?u6 hS ?qL
         case u6 =>
          intro w' hSw;obtain ⟨s1,s2,s3,s4⟩:=hSw;have z1:=s1.q0 rfl;have z2:=s2.q2 rfl;have z3:=s2.q3 rfl;have z4:=s2.q4 rfl;have z5:=s2.q5 rfl;have z6:=s3.q0 rfl;have z7:=s3.q1 rfl;have z8:=s4.q0 rfl;go_simp;rfl
         simp only [Act.put,Z4];refine' ZW (i:=9) rfl ?vv hS ?qO
         case vv =>
          intro w' hSw;go_simp;rfl
         simp only [Act.put,Z4];refine Zc (i:=6) (by kernel_rfl) rfl ?_;intro K hK;rw [if_pos (by rfl)];go_simp;refine ⟨trivial,?_⟩;refine (CallsIn.inRound l (callsIn_wide.2 F3.out)).mono ?_;rintro e FN ⟨rfl,UG⟩;have hS1:Z6 FN g 2 #[.int .i64 (Z7 ps)]/\Z6 FN Bx 301 #[.int .i64 (x:Int),.int .i64 (nx:Int),.int .i64 (Z5 ps x).1,.int .i64 (Z5 ps x).2,.int .i64 (Z5 ps nx).1,.int .i64 (Z5 ps nx).2]/\Z6 FN wr.heap.size 41 #[.int .i64 (Z5 ps k).1,.int .i64 (Z5 ps k).2]/\Z6 FN (g+1) 44 #[.int .u64 (ZU vk)]:=⟨Sn.drew.step UG,Xn.drew.step UG,Bn.drew.step UG,On.drew.step UG⟩;refine hK.out _ _ (fun _=>hS1) ?_;clear hK K
         (try simp only [Act.put,Z4])
         refine' ZW (i:=7) rfl ?uZ hS1 ?qK
         case uZ =>
          intro w' hSw;go_simp;rfl
         simp only [Act.put,Z4];have yR:=hide (ML os (Z7 ps) F8 (YM ps) FN);refine Zc (i:=10) (by kernel_rfl) rfl ?_;intro K hK;rw [if_pos (by rfl)];go_simp;refine ⟨trivial,?_⟩;refine (CallsIn.inRound l (callsIn_wide.2 yR.out)).mono ?_;rintro e w' ⟨rfl,rfl⟩;refine hK.out _ _ (fun _=>hS1) ?_;clear hK K;have hand:=TP vk (decide (os=Z7 ps))
         (try simp only [Act.put,Z4])
         refine' ZW (i:=11) rfl ?Es hS1 ?yE
         case Es =>
          intro w' hSw;go_simp;rfl
         simp only [Act.put,Z4];obtain ⟨s10,x10,b10,qx⟩:=hS1;have c7:FN.cell? ⟨g+1,0,none⟩=some (.int .u64 (ZU vk)):=qx.q0 rfl;have f7:=qx.frozen 0;refine Zc (i:=12) (by kernel_rfl) rfl ?_;intro K hK;rw [if_pos (by rfl)];go_simp;refine hK.out _ _ (fun h=>absurd rfl h) ?_;clear hK K;refine Ye (by kernel_rfl) ?_ _;have hk10:Z9 (Also P (g+1+1)) W (FN.setCell ⟨g+1,0,none⟩ (.int .u64 (ZU (vk && decide (os=Z7 ps))))):=Eh.trans ((Z9.drew _ _).trans ((Z9.of_below UG kH).trans (Z9.setCell Jv.out _ _ _)));have tX:KeepsFrom W4.heap.size W (FN.setCell ⟨g+1,0,none⟩ (.int .u64 (ZU (vk && decide (os=Z7 ps))))):=ug.trans ((KeepsFrom.of_below (ZV (Below.refl _ _))).trans ((KeepsFrom.of_below UG).trans ((KeepsOthers.setCell _ _ _).from _)));have kr:=(Tn.drew.step UG).far (p:=⟨g+1,0,none⟩) (by dsimp only;omega) (.int .u64 (ZU (vk && decide (os=Z7 ps))));have j6:=(Pn.drew.step UG).far (p:=⟨g+1,0,none⟩) (by dsimp only;omega) (.int .u64 (ZU (vk && decide (os=Z7 ps))));have ko:=s10.far (p:=⟨g+1,0,none⟩) (by dsimp only;omega) (.int .u64 (ZU (vk && decide (os=Z7 ps))));have ku:=x10.far (p:=⟨g+1,0,none⟩) (by dsimp only;omega) (.int .u64 (ZU (vk && decide (os=Z7 ps))));have j5:=qx.set 0 (.int .u64 (ZU (vk && decide (os=Z7 ps))));have t10:=(uL.drew.step UG).set (.inl (.inl Jw.out)) 0 (.int .u64 (ZU (vk && decide (os=Z7 ps))));have Xt:=hide (YG.out _ ⟨kr,j6,ko⟩ j5 ku hk10 tX t10);clear kr j6 ko ku j5 hk10 tX t10 hand c7 f7 s10 x10 b10 qx hS UG Tn Pn Sn Xn On Bn Eh ug uL kH YG F3 yR;gi_wp2;go_roundw
         case rel=>exact ⟨k+1,by omega,by go_num,Xt.out⟩
         case measure=>simp [intOf];omega
   · obtain rfl:k=ps.length:=(by omega);have mG:=hide Or;rw [<- ze.out] at mG;have Ad:=htr.mono (R:=More P w W4) fun j h=>.inl h;rw [List.append_assoc,<- jZ.out] at Ad;have yS:=hide (show KeepsFrom W4.heap.size W wr/\Z9 (Also P (g+1+1)) W wr/\(((Z6 wr w.heap.size 193 #[.pointer (ZT t)]/\Z6 wr (w.heap.size+1) 36 #[.slice (some ⟨b,off,none⟩) ps.length c])/\Z6 wr g 2 #[.int .i64 (Z7 ps)])/\Z6 wr (g+1) 44 #[.int .u64 (ZU (vF (Z7 ps) ps (pre++[x])))])/\(Z9 (Also P (g+1+1)) W4 wr/\Tp wr (More P w W4) t (es++Uy ps.length (pre++[x]))) from ⟨hfr,hkr,⟨⟨⟨Tr,Pr⟩,Sr⟩,mG.out⟩,hB1.trans hkr,Ad⟩);clear Tr Pr Sr Or Xr hkr hfr htr Ad mG;gi_wp2;exact yS.out
 case done =>
  rintro D zs W hD rfl ⟨⟨⟨⟨T1,P1⟩,S1⟩,O1⟩,hB1,hT1⟩ hK;have o1:=O1.q0 rfl;have hB2:Z9 P w W:=Ui.out.trans (hB1.mono fun k h=>.inl h);gi_wp2;refine ⟨by simp,.inl ⟨_,_,rfl,run_takeDeferred hK,?_⟩⟩;refine ⟨_,results_tmp rfl _ _ _,rfl,hB2.trans (Z9.putObj _ (fun h=>?_) _),?_⟩
  · have:=Sd.out D (.inl h);omega
  · exact (hT1.mono (R:=P) fun k h=>.inl h).putObj (fun u hu=>Nat.lt_of_lt_of_le (Md.out u hu) hD) hK rfl _
 case stop =>
  rintro D c pre W _ _ h _;exact h.elim
end
end Go.Proofs.YthnenedoblncjaaGreatDoor