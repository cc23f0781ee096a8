/- Valid -/
import Derived.Scope
import Derived.Test.YtfljlmleiggmjaaGreatDoorPkD23
set_option maxRecDepth 1000000
set_option maxHeartbeats 8000000
namespace Go.Proofs.YtfljlmleiggmjaaGreatDoor
open Go.Proofs.Tryz
open List (getElem_toArray getElem_cons_succ getElem_cons_zero setIfInBounds_toArray set_cons_zero set_cons_succ)
section
open Go.RowKit Go.Shelf
attribute [local go_sem] Oper.semAt_some
section
variable {F:Fence}{n:Nat}{P:Program}{b:Frame}{a:Act}{k:List Item}{cs:List Frame}{w:World}{Q:Exit->Act->World->Prop}
theorem VX{c:Code}:step P (lone (b.atR a (.code (.scope c)::k)) cs w)=.next (lone (b.atR a (.code c::.inScope c::k)) cs w) :=
 step_lone_go (by simp [stepG,stepG.exec,Frame.atR])
theorem JJ{c:Code}:step P (lone (b.atR a (.inScope c::k)) cs w)=.next (lone (b.atR a k) cs w) :=
 step_lone_go (by simp [stepG,stepG.exec,Frame.atR])
theorem UR{c:Code}(h:c.wpIn F n P (Exit.noGoto Q) a w):(Code.scope c).wpIn F n P Q a w:=by
 intro b k cs hro hb hr;have h0:(lone (b.atR a (.code (.scope c)::k)) cs w).fenced P F:=fenced_calm hb hr rfl;obtain ⟨e,a₁,w₁,hq,harr⟩:=h b (.inScope c::k) cs hro hb hr;cases e with
 | normal=>exact ⟨.normal,a₁,w₁,hq,.head h0 VX (StepsIn.trans harr (.one (fenced_calm hb hr rfl) JJ))⟩
 | exit id =>
   have hx:exitTo id (.inScope c::k)=exitTo id k:=by simp [exitTo]
   exact ⟨.exit id,a₁,w₁,hq,fun k' hk=>.head h0 VX (harr.1 k' (by rw [hx];exact hk)),
    fun hr' hk=>let ⟨k₁,h1,h2⟩:=harr.2 hr' (by rw [hx];exact hk);⟨k₁,h1,.head h0 VX h2⟩⟩
 | goto l=>exact hq.elim
 | ret=>exact ⟨_,a₁,w₁,hq,.of_steps (.one h0 VX) harr⟩
 | panic ch=>exact ⟨_,a₁,w₁,hq,.of_steps (.one h0 VX) harr⟩
 | outgrown=>exact ⟨_,a₁,w₁,hq,.of_steps (.one h0 VX) harr⟩
end
theorem LM(a b:Bool):bits BinOp.and IntKind.u64 (Zy a) (Zy b)=Zy (a && b):=by cases a <;> cases b <;> decide
theorem QK(a:Bool):bits BinOp.xor IntKind.u64 IntKind.u64.max (Zy a)=Zy (!a):=by cases a <;> decide
def Fb(s:Int)(ps:List Pt)(i j:Nat):Bool :=
 decide (j=i) || decide (j=(i+1) % ps.length) || decide ((ZF (Z4 ps i) (Z4 ps ((i+1) % ps.length)) (Z4 ps j)).sign=s)
def VZ(s:Int)(ps:List Pt)(i:Nat)(v:Bool)(k:Nat):Bool:=(List.range k).foldl (fun v j=>v && Fb s ps i j) v
theorem MQ(s:Int)(ps:List Pt)(i:Nat)(v:Bool)(k:Nat):VZ s ps i v (k+1)=(VZ s ps i v k && Fb s ps i k):=by
 simp [VZ,List.range_succ]
def vF(s:Int)(ps:List Pt)(pre:List Nat):Bool:=pre.foldl (fun v i=>VZ s ps i v ps.length) (!decide (s=0))
theorem yZ(s:Int)(ps:List Pt)(pre:List Nat)(i:Nat):vF s ps (pre++[i])=VZ s ps i (vF s ps pre) ps.length:=by simp [vF]
def Yl(ps:List Pt):Bool:=vF (Z5 ps) ps (List.range (ZA ps.length))
theorem G5{a b:Int}(h0:0<=a)(h1:a<18446744073709551616)(h2:0<=b)(h3:b<18446744073709551616):0<=bits BinOp.xor IntKind.u64 a b/\bits BinOp.xor IntKind.u64 a b<18446744073709551616/\(bits BinOp.xor IntKind.u64 a b=0 ↔ a=b):=by
 rw [u64_xor a b h0 h1 h2 h3];have hx:a.toNat ^^^ b.toNat<2 ^ 64:=Nat.xor_lt_two_pow (by omega) (by omega);refine ⟨by omega,by omega,?_⟩;constructor
 · intro h;have h':a.toNat ^^^ b.toNat=0:=(by omega);have e:b.toNat=a.toNat ^^^ (a.toNat ^^^ b.toNat):=(by rw [<- Nat.xor_assoc,Nat.xor_self,Nat.zero_xor]);rw [h',Nat.xor_zero] at e;omega
 · rintro rfl;simp
theorem Hw(a b:Int)(h0:0<=a)(h1:a<18446744073709551616)(h2:0<=b)(h3:b<18446744073709551616)(w:World):Calls prog 234 #[.int .u64 a,.int .u64 b] w fun e w'=>e=.returned (.int .u64 (Zy (decide (a=b))))/\w=w':=by
 obtain ⟨x0,x1,x2⟩:=G5 h0 h1 h2 h3;have HZ:=hide (TR (bits BinOp.xor IntKind.u64 a b) x0 x1 w);have e:decide (bits BinOp.xor IntKind.u64 a b=0)=decide (a=b):=by simp only [x2]
 rw [e] at HZ;clear e x2 x0 x1;go_enter func234,ntmps234;go_wp2_with fail;refine HZ.out.mono ?_;rintro e w' ⟨rfl,rfl⟩;go_wp2;go_ret;exact ⟨rfl,rfl⟩
theorem Vp{x y:Int}(hx:x=-1\/x=0\/x=1)(hy:y=-1\/y=0\/y=1):(0<=IntKind.u64.wrap x/\IntKind.u64.wrap x<18446744073709551616)/\decide (IntKind.u64.wrap x=IntKind.u64.wrap y)=decide (x=y):=by
 rcases hx with rfl|rfl|rfl <;> rcases hy with rfl|rfl|rfl <;> decide
theorem zK(x y:Int)(hx:x=-1\/x=0\/x=1)(hy:y=-1\/y=0\/y=1)(w:World):Calls prog 234 #[.int .u64 (IntKind.u64.wrap x),.int .u64 (IntKind.u64.wrap y)] w fun e w'=>e=.returned (.int .u64 (Zy (decide (x=y))))/\w=w':=by
 have h:=Hw _ _ (Vp hx hx).1.1 (Vp hx hx).1.2 (Vp hy hy).1.1 (Vp hy hy).1.2 w;rw [(Vp hx hy).2] at h;exact h
theorem V4(ps:List Pt):Z5 ps=-1\/Z5 ps=0\/Z5 ps=1:=by
 rw [<- SV];exact WW _
def PG(x nx k:Nat):List Ev:=((List.range k).filter fun j=>!(decide (j=x) || decide (j=nx))).map fun (j:Nat)=>(4,(x:Int),(j:Int))
theorem Ov{x nx k:Nat}(h:k=x\/k=nx):PG x nx (k+1)=PG x nx k:=by
 unfold PG;rw [List.range_succ,List.filter_append];have e:(!(decide (k=x) || decide (k=nx)))=false:=by rcases h with h|h <;> simp [h]
 simp [List.filter,e]
theorem Kj{x nx k:Nat}(h:k≠x)(h':k≠nx):PG x nx (k+1)=PG x nx k++[(4,(x:Int),(k:Int))]:=by
 unfold PG;rw [List.range_succ,List.filter_append];simp [List.filter,h,h']
theorem PI(x nx k:Nat):(PG x nx k).length<=k:=by
 unfold PG;rw [List.length_map];exact Nat.le_trans (List.length_filter_le _ _) (by simp)
def UQ(n:Nat)(pre:List Nat):List Ev:=pre.flatMap fun x=>PG x ((x+1) % n) n
theorem ER(n:Nat)(pre:List Nat)(x:Nat):UQ n (pre++[x])=UQ n pre++PG x ((x+1) % n) n:=by simp [UQ]
theorem Tj(n:Nat):∀ pre:List Nat,(UQ n pre).length<=pre.length*n
 | []=>by simp [UQ]
 | x::r=>by
   have h1:=Tj n r;have h2:=PI x ((x+1) % n) n;have e:UQ n (x::r)=PG x ((x+1) % n) n++UQ n r:=(by simp [UQ]);rw [e,List.length_append,List.length_cons,Nat.add_mul];omega
theorem Ji(P:Nat->Prop)(t:Option (Nat × Nat))(es:List Ev)(ps:List Pt)(hps:Tq ps)(hn:ps.length<=10000)(A:Option Addr)(c:Nat)(w:World)(hP:∀ k,P k->k<w.heap.size)(hg0:P 3)(hs:U2 w P A (Zc ps))(hw:MW w)(ht:Tp w P t es)(hl:es.length<=900000):
 Calls prog 220 #[.pointer (Zu t),.slice A ps.length c] w fun e w'=>e=.returned (.int .u64 (Zy (Yl ps)))/\Z8 P w w'/\Tp w' P t (es++UQ ps.length (List.range (ZA ps.length))):=by
 obtain ⟨w0,hw0⟩:=eE ((w.alloc (.cells #[.pointer (Zu t)] 51)).alloc (.cells #[.slice A ps.length c] 59));have hb0:=bF hw0;have T0:Z6 w0 w.heap.size 51 #[.pointer (Zu t)]:=by rw [hw0];exact (Z6.new _ _ _).alloc _
 have P0:Z6 w0 (w.heap.size+1) 59 #[.slice A ps.length c]:=by rw [hw0];exact Z6.new2 _ _ _ _
 have CP:=hide (Sk ps hps hn A c w0 (((hs.sl hP).below hb0).more hb0.size) (hw.step hb0));have v0:w0.cell? ⟨w.heap.size+1,0,none⟩=some (.slice A ps.length c):=P0.q0 rfl;refine (callsIn_wide (n:=6)).1 ?_;refine callsIn_of_wp_marks func220 rfl trivial ?_ rfl;simp only [ntmps220,List.size_toArray,List.length_cons,List.length_nil,Nat.reduceAdd,Nat.reduceSub,Array.replicate_succ,Array.replicate_zero,List.push_toArray,List.append_toArray,List.nil_append,List.cons_append];gi_wp2_with fail;rw [<- hw0];have HW0:=hide hw0;clear hw0;refine ⟨trivial,?_⟩;refine (callsIn_wide.2 CP.out).mono ?_;rintro e w1 ⟨rfl,hb1⟩;obtain ⟨g,hg⟩:=eE w1.heap.size;have P1:=P0.step hb1;have v1:w1.cell? ⟨w.heap.size+1,0,none⟩=some (.slice A ps.length c):=P1.q0 rfl;have gL:=hide (TR (IntKind.u64.wrap (Z5 ps)) (Vp (V4 ps) (V4 ps)).1.1 (Vp (V4 ps) (V4 ps)).1.2 (w1.alloc (.cells #[.int .i64 (Z5 ps)] 2)));rw [(Vf (show -1<=Z5 ps by rcases V4 ps with h|h|h <;> omega) (by rcases V4 ps with h|h|h <;> omega)).2] at gL;have hnot:=QK (decide (Z5 ps=0));have v2:((w1.alloc (.cells #[.int .i64 (Z5 ps)] 2)).alloc (.cells #[.int .u64 (Zy (!decide (Z5 ps=0)))] 124)).cell? ⟨w.heap.size+1,0,none⟩=some (.slice A ps.length c):=((P1.alloc _).alloc _).q0 rfl;gi_wp2_with fail;refine ⟨trivial,?_⟩;refine (callsIn_wide.2 gL.out).mono ?_;rintro e w2' ⟨rfl,rfl⟩;gi_wp2_with fail;refine ⟨trivial,?_⟩;refine (callsIn_wide.2 (Ht _ A ps.length c rfl _)).mono ?_;rintro e w3 ⟨rfl,rfl⟩;have hs2:((w1.alloc (.cells #[.int .i64 (Z5 ps)] 2)).alloc (.cells #[.int .u64 (Zy (!decide (Z5 ps=0)))] 124)).heap.size=g+1+1:=by simp [hg]
 rw [hs2];have G0:Z6 (((w1.alloc (.cells #[.int .i64 (Z5 ps)] 2)).alloc (.cells #[.int .u64 (Zy (!decide (Z5 ps=0)))] 124)).alloc (.cells #[.slice A ps.length c] 59)) g 2 #[.int .i64 (Z5 ps)]:=by rw [hg];exact ((Z6.new _ _ _).alloc _).alloc _
 have G1:Z6 (((w1.alloc (.cells #[.int .i64 (Z5 ps)] 2)).alloc (.cells #[.int .u64 (Zy (!decide (Z5 ps=0)))] 124)).alloc (.cells #[.slice A ps.length c] 59)) (g+1) 124 #[.int .u64 (Zy (!decide (Z5 ps=0)))]:=by rw [hg];exact (Z6.new2 _ _ _ _).alloc _
 have G2:Z6 (((w1.alloc (.cells #[.int .i64 (Z5 ps)] 2)).alloc (.cells #[.int .u64 (Zy (!decide (Z5 ps=0)))] 124)).alloc (.cells #[.slice A ps.length c] 59)) (g+1+1) 59 #[.slice A ps.length c]:=by
  have h2:=Z6.new ((w1.alloc (.cells #[.int .i64 (Z5 ps)] 2)).alloc (.cells #[.int .u64 (Zy (!decide (Z5 ps=0)))] 124)) 59 #[.slice A ps.length c];rw [hs2] at h2;exact h2
 have hb4:Below w1.heap.size w1 (((w1.alloc (.cells #[.int .i64 (Z5 ps)] 2)).alloc (.cells #[.int .u64 (Zy (!decide (Z5 ps=0)))] 124)).alloc (.cells #[.slice A ps.length c] 59)):=Z7 (Z7 (bA) _) _;have hs4:(((w1.alloc (.cells #[.int .i64 (Z5 ps)] 2)).alloc (.cells #[.int .u64 (Zy (!decide (Z5 ps=0)))] 124)).alloc (.cells #[.slice A ps.length c] 59)).heap.size=g+3:=by simp [hg]
 obtain ⟨W4,oL⟩:∃ W4,(((w1.alloc (.cells #[.int .i64 (Z5 ps)] 2)).alloc (.cells #[.int .u64 (Zy (!decide (Z5 ps=0)))] 124)).alloc (.cells #[.slice A ps.length c] 59))=W4:=⟨_,rfl⟩;rw [oL] at G0 G1 G2 hb4 hs4;gi_wp2_with fail;rw [<- hg];have hB4:Below w.heap.size w W4:=Z9 (Z9 hb0 hb1) hb4;have hgw:w.heap.size+2<=g:=by
  have h1:=hb1.size;have h2:w0.heap.size=w.heap.size+2:=by rw [HW0.out];simp
  omega
 have T4:=(T0.step hb1).step hb4;have P4:=(P0.step hb1).step hb4;have G7:=hide hps;have HW:=hide hw;have HSL:=hide (hs.kept (Z8.of_below hB4 hP))
 have LG:∀ k,Also P (g+1+1) k->k<W4.heap.size:=fun k hk=>by
  rcases hk with hk|hk
  · exact Nat.lt_of_lt_of_le (hP k hk) hB4.size
  · omega
 have Js:=ht.more hB4;have hmb:∀ u,t=some u->u.2<W4.heap.size:=fun u hu=>Nat.lt_of_lt_of_le (ht.aP u hu) hB4.size;have hE1:¬ Also P (g+1+1) (g+1):=by
  rintro (h|h)
  · have:=hP _ h;omega
  · omega
 have hM:∀ k,w.heap.size<=k->k<g+3->More P w W4 k:=fun k h1 h2=>.inr ⟨h1,by omega⟩;have l9:=hide (hM w.heap.size (by omega) (by omega));have l8:=hide (hM (w.heap.size+1) (by omega) (by omega));have dK:=hide (hM g (by omega) (by omega));have tL:=hide (hM (g+1) (by omega) (by omega));have HMV:=hide (hM (g+1+1) (by omega) (by omega));have dY:Z8 P w W4:=Z8.of_below hB4 hP;have Aa:∀ k,Also P (g+1+1) k->k<W4.heap.size/\k<W4.heap.size:=fun k hk=>⟨LG k hk,LG k hk⟩;have hPM:∀ k,More P w W4 k->k<W4.heap.size:=Yg hP hB4;have NZ:=hide hE1;have Lu:=hide LG;have zf:=hide hmb;have HT4:=hide Js;have Mv:=hide dY;have mX:=hide Aa;have HPM:=hide hPM;have JO:=hide hg0;have zmy:=hide (show ∀ k,P k->k<W4.heap.size from fun k hk=>LG k (.inl hk));clear hE1 LG hmb Js hM dY Aa hPM hg0 ht hP;clear oL hg hs2 gL CP T0 P0 P1 v0 v1 v2 hps hw hs hb0 hb1 hb4 HW0 hnot hB4
 refine wpIn_rangeFunc_ownH rfl (by omega) (gf:=264) (lb:=#[.pointer (some ⟨g+1+1,0,none⟩)]) rfl trivial (enters_of func264 (by kernel_rfl) rfl)
  (MJ 5 (by omega) (g+1+1) (Also P (g+1+1)) ps A c W4 Lu.out (.inr rfl) G2 (HSL.out.mono fun k h=>.inl h)) Z8.trans (fun W l o o' hl _ _ _=>Z8.putObj o' (fun h=>by have:=Lu.out _ h;omega) W) (Below.refl _ _) (fun _=>rfl)
  (fun pre W=>(((Z6 W w.heap.size 51 #[.pointer (Zu t)]/\Z6 W (w.heap.size+1) 59 #[.slice A ps.length c])/\Z6 W g 2 #[.int .i64 (Z5 ps)])/\Z6 W (g+1) 124 #[.int .u64 (Zy (vF (Z5 ps) ps pre))])/\(Z8 (Also P (g+1+1)) W4 W/\Tp W (More P w W4) t (es++UQ ps.length pre)))
  (fun _ _ _=>False)
  (OwnFrom.and (OwnFrom.and (OwnFrom.and (OwnFrom.and (Own.from (Xh _ _ _) _) (Own.from (Xh _ _ _) _)) (Own.from (Xh _ _ _) _)) (Own.from (Xh _ _ _) _)) (OwnFrom.and (TY mX.out) (V5 _ (More P w W4) t (fun pre=>es++UQ ps.length pre) zf.out)))
  (fun _ _ _ _ _ hs _ _=>hs)
  ⟨⟨⟨⟨T4,P4⟩,G0⟩,G1⟩,Z8.refl _ _,by simpa [UQ] using HT4.out⟩
  (fun x a' W=>∃ Bx es',g+1<Bx/\Tp W (Also (More P w W4) Bx) t es'/\Z6 W Bx 300 #[.int .i64 (x:Int),.int .i64 (((x:Int)+1) % (ps.length:Int)),.int .i64 (Z4 ps x).1,.int .i64 (Z4 ps x).2,.int .i64 (Z4 ps ((x+1) % ps.length)).1,.int .i64 (Z4 ps ((x+1) % ps.length)).2]/\a'={ tmps:=#[.pointer (Zu t),.slice A ps.length c,.pointer (some ⟨w.heap.size,0,none⟩),.pointer (some ⟨w.heap.size+1,0,none⟩),.int .u64 0,.pointer (some ⟨g,0,none⟩),.pointer (some ⟨g+1,0,none⟩),.pointer (some ⟨Bx,0,none⟩),undef,undef,.slice A ps.length c,.int .i64 (Z5 ps),.int .i64 (Z5 ps),.int .u64 (IntKind.u64.wrap (Z5 ps)),.int .u64 (Zy (decide (Z5 ps=0))),.int .u64 (Zy (!decide (Z5 ps=0))),.slice A ps.length c,.func (.func 264) #[] #[.pointer (some ⟨g+1+1,0,none⟩)],.agg #[.int .i64 (x:Int),.int .i64 (((x:Int)+1) % (ps.length:Int)),.int .i64 (Z4 ps x).1,.int .i64 (Z4 ps x).2,.int .i64 (Z4 ps ((x+1) % ps.length)).1,.int .i64 (Z4 ps ((x+1) % ps.length)).2],undef,undef,undef,undef,undef,undef,undef,undef,undef,undef,undef,undef,undef,undef,undef,undef,undef,undef,undef,undef,undef,undef,undef,undef,undef,undef,undef,undef,undef,undef,undef,undef,undef,undef,undef,undef],defers:=[] })
  (fun x a' _ X Y row hs hg hr=>by obtain ⟨Bx,es',h1,hT,h2,h3⟩:=hs;exact ⟨Bx,es',h1,V5 _ _ t (fun _:Unit=>es') zf.out () X Y row hT hg hr,Xh Bx 300 (fun (_:Unit)=>#[.int .i64 (x:Int),.int .i64 (((x:Int)+1) % (ps.length:Int)),.int .i64 (Z4 ps x).1,.int .i64 (Z4 ps x).2,.int .i64 (Z4 ps ((x+1) % ps.length)).1,.int .i64 (Z4 ps ((x+1) % ps.length)).2]) () X Y row h2 hg (fun r e=>(hr r e).2),h3⟩)
  ?assign ?body ?done ?stop
 case assign =>
  rintro l pre x W K ⟨⟨⟨⟨T1,P1⟩,S1⟩,O1⟩,hB1,hT1⟩ hK;have hlt:g+1<W.heap.size:=O1.lt;unfold nX;gi_wp2;have dX:∀ k,Also P (g+1+1) k->k<W.heap.size:=fun k hk=>Nat.lt_of_lt_of_le (Lu.out k hk) hB1.size;refine hK _ _ ((KeepsOthers.alloc _ _).from _) (Z8.of_below (bA) dX) ⟨⟨⟨⟨T1.alloc _,P1.alloc _⟩,S1.alloc _⟩,O1.alloc _⟩,hB1.trans (Z8.of_below (bA) dX),hT1.step (bA)⟩ ⟨W.heap.size,es++UQ ps.length pre,hlt,?_,Z6.new _ _ _,rfl⟩;refine (hT1.add (R:=Also (More P w W4) W.heap.size) fun k hk=>?_).step (bA);rcases hk with hk|hk
  · exact .inl hk
  · exact .inr (by omega)
 case body =>
  rintro l pre x a' W hl _ ⟨⟨⟨⟨T1,P1⟩,S1⟩,O1⟩,hB1,hT1⟩ ⟨Bx,es',hBx,hTx,bX,rfl⟩ hpl;have hszW:W4.heap.size<=W.heap.size:=hB1.size;have iK:=hT1.with hTx
  clear hT1 hTx;have zjk:3<=ps.length/\ps.length<=64:=by
   unfold ZA at hpl;split at hpl
   · assumption
   · omega
  obtain ⟨h3,h64⟩:=zjk;have Wj:prog.follows .mixedOrders=true:=by kernel_rfl
  obtain ⟨b,off,rfl,hb⟩:=Vn (HSL.out.sl zmy.out) (by omega);obtain ⟨nx,hnx⟩:=eE ((x+1) % ps.length);have zox:((x:Int)+1) % (ps.length:Int)=(nx:Int):=by rw [hnx];rfl
  obtain ⟨vp,hvp⟩:=eE (vF (Z5 ps) ps pre);have E8:=hide (yZ (Z5 ps) ps pre x);rw [<- hvp] at E8 O1;rw [zox,<- hnx] at bX ⊢;have Uo:Hid (∀ k,Fb (Z5 ps) ps x k=(decide (k=x) || decide (k=nx) || decide ((ZF (Z4 ps x) (Z4 ps nx) (Z4 ps k)).sign=Z5 ps))):=hide fun k=>by rw [hnx];rfl
  have v1:W.cell? ⟨w.heap.size+1,0,none⟩=some (.slice (some ⟨b,off,none⟩) ps.length c):=P1.q0 rfl;have hpre:(es++UQ ps.length pre).length<=910000:=by
   have h1:=Tj ps.length pre;have h2:pre.length<=64:=(by unfold ZA at hpl;split at hpl <;> omega);have h3:pre.length*ps.length<=64*64:=Nat.mul_le_mul h2 h64;rw [List.length_append];omega
  have HVE:=hide (ER ps.length pre x);rw [<- hnx] at HVE;have zwc:=hide hpre;have mD:=hide iK;clear hpl hnx zox hvp hpre iK;gi_wp2_with fail;refine UR ?_;refine wpIn_seq_k (fun K hK=>wpIn_label ?_);refine hK _ _ ?_;clear hK K;gi_wp2_with fail
  gi_loopw [21] (fun i wr=>∃ k:Nat,k<=ps.length/\i=.int .i64 k/\(Z6 wr w.heap.size 51 #[.pointer (Zu t)]/\Z6 wr (w.heap.size+1) 59 #[.slice (some ⟨b,off,none⟩) ps.length c]/\Z6 wr g 2 #[.int .i64 (Z5 ps)])/\Z6 wr (g+1) 124 #[.int .u64 (Zy (VZ (Z5 ps) ps x vp k))]/\Z6 wr Bx 300 #[.int .i64 (x:Int),.int .i64 (nx:Int),.int .i64 (Z4 ps x).1,.int .i64 (Z4 ps x).2,.int .i64 (Z4 ps nx).1,.int .i64 (Z4 ps nx).2]/\Z8 (Also P (g+1+1)) W wr/\KeepsFrom W4.heap.size W wr/\Tp wr (Also (More P w W4) Bx) t (es++UQ ps.length pre++PG x nx k))
   (fun i _=>ps.length - (intOf i).toNat)
  case atStart=>exact ⟨0,Nat.zero_le _,rfl,⟨T1,P1,S1⟩,O1,bX,Z8.refl _ _,KeepsFrom.refl _ _,by simpa [PG] using mD.out⟩
  case round =>
   clear T1 P1 S1 O1 bX v1;obtain ⟨k,hk,rfl,⟨Tr,Pr,Sr⟩,Or,Xr,hkr,hfr,htr⟩:=hrel;have hEr:∀ k,Also P (g+1+1) k->k<wr.heap.size:=fun k hk=>by have:=Lu.out k hk;have:=hkr.size;omega
   by_cases hlt:k<ps.length
   · have Uj:((k:Nat):Int)<((ps.length:Nat):Int):=(by omega);have hsr:=(HSL.out.kept ((hB1.trans hkr).mono fun k h=>.inl h)).sl zmy.out;obtain ⟨a0,a1⟩:=XE hsr hlt;obtain ⟨vk,hvk⟩:=eE (VZ (Z5 ps) ps x vp k);have HSC:=hide (MQ (Z5 ps) ps x vp k);rw [<- hvk] at HSC Or;obtain ⟨w9,tZ⟩:∃ w9,wr.alloc (.cells #[.int .i64 (Z4 ps k).1,.int .i64 (Z4 ps k).2] 123)=w9:=⟨_,rfl⟩;have T9:Z6 w9 w.heap.size 51 #[.pointer (Zu t)]:=(by rw [<- tZ];exact Tr.alloc _);have P9:Z6 w9 (w.heap.size+1) 59 #[.slice (some ⟨b,off,none⟩) ps.length c]:=(by rw [<- tZ];exact Pr.alloc _);have S9:Z6 w9 g 2 #[.int .i64 (Z5 ps)]:=(by rw [<- tZ];exact Sr.alloc _);have O9:Z6 w9 (g+1) 124 #[.int .u64 (Zy vk)]:=(by rw [<- tZ];exact Or.alloc _);have X9:Z6 w9 Bx 300 #[.int .i64 (x:Int),.int .i64 (nx:Int),.int .i64 (Z4 ps x).1,.int .i64 (Z4 ps x).2,.int .i64 (Z4 ps nx).1,.int .i64 (Z4 ps nx).2]:=(by rw [<- tZ];exact Xr.alloc _);have B9:Z6 w9 wr.heap.size 123 #[.int .i64 (Z4 ps k).1,.int .i64 (Z4 ps k).2]:=(by rw [<- tZ];exact Z6.new _ _ _);have hk9:Z8 (Also P (g+1+1)) W w9:=(by rw [<- tZ];exact hkr.trans (Z8.of_below (bA) hEr));have hf9:KeepsFrom W4.heap.size W w9:=(by rw [<- tZ];exact hfr.trans (KeepsFrom.of_below (bA)));have e0:w9.cell? ⟨Bx,0,none⟩=some (.int .i64 (x:Int)):=X9.q0 rfl;have e1:w9.cell? ⟨Bx,1,none⟩=some (.int .i64 (nx:Int)):=X9.q1 rfl;have t9:w9.cell? ⟨w.heap.size,0,none⟩=some (.pointer (Zu t)):=T9.q0 rfl;have ht9:Tp w9 (Also (Also (More P w W4) Bx) wr.heap.size) t (es++UQ ps.length pre++PG x nx k):=by
      rw [<- tZ];refine (htr.add fun j hj=>?_).step (bA);rcases hj with hj|hj
      · exact .inl hj
      · exact .inr (by omega)
     clear hvk hsr Tr Pr Sr Or Xr hkr hfr htr
     by_cases hkx:k=x
     · have hki:(k:Int)=(x:Int):=(by omega);have HO:VZ (Z5 ps) ps x vp (k+1)=vk:=(by rw [HSC.out,Uo.out,decide_eq_true hkx];simp);have O9':=O9;rw [<- HO] at O9';have Aw:=ht9.mono (R:=Also (More P w W4) Bx) fun j h=>.inl h;rw [<- Ov (x:=x) (nx:=nx) (k:=k) (.inl hkx)] at Aw;have TT:=hide (show (Z6 w9 w.heap.size 51 #[.pointer (Zu t)]/\Z6 w9 (w.heap.size+1) 59 #[.slice (some ⟨b,off,none⟩) ps.length c]/\Z6 w9 g 2 #[.int .i64 (Z5 ps)])/\Z6 w9 (g+1) 124 #[.int .u64 (Zy (VZ (Z5 ps) ps x vp (k+1)))]/\Z6 w9 Bx 300 #[.int .i64 (x:Int),.int .i64 (nx:Int),.int .i64 (Z4 ps x).1,.int .i64 (Z4 ps x).2,.int .i64 (Z4 ps nx).1,.int .i64 (Z4 ps nx).2]/\Z8 (Also P (g+1+1)) W w9/\KeepsFrom W4.heap.size W w9/\Tp w9 (Also (More P w W4) Bx) t (es++UQ ps.length pre++PG x nx (k+1)) from ⟨⟨T9,P9,S9⟩,O9',X9,hk9,hf9,Aw⟩);clear O9' HO Aw T9 P9 S9 O9 X9 B9 hk9 hf9 ht9 HSC Uo;rw [hkx] at tZ a0 a1;gi_wp2_with fail;go_roundw
       case rel=>exact ⟨k+1,by omega,by go_num,TT.out⟩
       case measure=>simp [intOf];omega
     · have hki:¬ (k:Int)=(x:Int):=by omega
       by_cases hkn:k=nx
       · have zop:(k:Int)=(nx:Int):=(by omega);have HO:VZ (Z5 ps) ps x vp (k+1)=vk:=(by rw [HSC.out,Uo.out,decide_eq_true hkn];simp);have O9':=O9;rw [<- HO] at O9';have Aw:=ht9.mono (R:=Also (More P w W4) Bx) fun j h=>.inl h;rw [<- Ov (x:=x) (nx:=nx) (k:=k) (.inr hkn)] at Aw;have TT:=hide (show (Z6 w9 w.heap.size 51 #[.pointer (Zu t)]/\Z6 w9 (w.heap.size+1) 59 #[.slice (some ⟨b,off,none⟩) ps.length c]/\Z6 w9 g 2 #[.int .i64 (Z5 ps)])/\Z6 w9 (g+1) 124 #[.int .u64 (Zy (VZ (Z5 ps) ps x vp (k+1)))]/\Z6 w9 Bx 300 #[.int .i64 (x:Int),.int .i64 (nx:Int),.int .i64 (Z4 ps x).1,.int .i64 (Z4 ps x).2,.int .i64 (Z4 ps nx).1,.int .i64 (Z4 ps nx).2]/\Z8 (Also P (g+1+1)) W w9/\KeepsFrom W4.heap.size W w9/\Tp w9 (Also (More P w W4) Bx) t (es++UQ ps.length pre++PG x nx (k+1)) from ⟨⟨T9,P9,S9⟩,O9',X9,hk9,hf9,Aw⟩);clear O9' HO Aw T9 P9 S9 O9 X9 B9 hk9 hf9 ht9 HSC Uo;rw [hkn] at tZ a0 a1;gi_wp2_with fail;go_roundw
         case rel=>exact ⟨k+1,by omega,by go_num,TT.out⟩
         case measure=>simp [intOf];omega
       · have zop:¬ (k:Int)=(nx:Int):=(by omega);obtain ⟨os,hos⟩:=eE ((ZF (Z4 ps x) (Z4 ps nx) (Z4 ps k)).sign);have hO:VZ (Z5 ps) ps x vp (k+1)=(vk && decide (os=Z5 ps)):=(by rw [HSC.out,Uo.out,hos,decide_eq_false hkx,decide_eq_false hkn];simp);have RO:=hide (Kj hkx hkn)
         have VR:=hide (fun (W8:World) (h1:(Z6 W8 w.heap.size 51 #[.pointer (Zu t)]/\Z6 W8 (w.heap.size+1) 59 #[.slice (some ⟨b,off,none⟩) ps.length c]/\Z6 W8 g 2 #[.int .i64 (Z5 ps)])) (h2:Z6 W8 (g+1) 124 #[.int .u64 (Zy (vk && decide (os=Z5 ps)))]) (h3:Z6 W8 Bx 300 #[.int .i64 (x:Int),.int .i64 (nx:Int),.int .i64 (Z4 ps x).1,.int .i64 (Z4 ps x).2,.int .i64 (Z4 ps nx).1,.int .i64 (Z4 ps nx).2]) (h4:Z8 (Also P (g+1+1)) W W8) (h5:KeepsFrom W4.heap.size W W8) (h6:Tp W8 (Also (Also (More P w W4) Bx) wr.heap.size) t (es++UQ ps.length pre++PG x nx k++[(4,(x:Int),(k:Int))])) =>
          (show (Z6 W8 w.heap.size 51 #[.pointer (Zu t)]/\Z6 W8 (w.heap.size+1) 59 #[.slice (some ⟨b,off,none⟩) ps.length c]/\Z6 W8 g 2 #[.int .i64 (Z5 ps)])/\Z6 W8 (g+1) 124 #[.int .u64 (Zy (VZ (Z5 ps) ps x vp (k+1)))]/\Z6 W8 Bx 300 #[.int .i64 (x:Int),.int .i64 (nx:Int),.int .i64 (Z4 ps x).1,.int .i64 (Z4 ps x).2,.int .i64 (Z4 ps nx).1,.int .i64 (Z4 ps nx).2]/\Z8 (Also P (g+1+1)) W W8/\KeepsFrom W4.heap.size W W8/\Tp W8 (Also (More P w W4) Bx) t (es++UQ ps.length pre++PG x nx (k+1)) from ⟨h1,by rw [hO];exact h2,h3,h4,h5,by rw [RO.out,<- List.append_assoc];exact h6.mono fun j h=>.inl h⟩))
         have CF:os=-1\/os=0\/os=1:=by rw [hos];exact WW _
         have tV:∀ j,Also (Also (More P w W4) Bx) wr.heap.size j->j<w9.heap.size:=fun j hj=>by
          rcases hj with (hj|hj)|hj
          · have:=HPM.out j hj;have:=hk9.size;omega
          · subst hj;exact X9.lt
          · subst hj;exact B9.lt
         have Tv:=hide (fun w9 (hM:MW w9)=>UF (Z4 ps x) (Z4 ps nx) (Z4 ps k) (G7.out.at_ _) (G7.out.at_ _) (G7.out.at_ _) w9 hM);rw [<- hos] at Tv;have hle:(es++UQ ps.length pre++PG x nx k).length<=1000000:=by
          have:=PI x nx k;have:=zwc.out;rw [List.length_append];omega
         have RU:=hide (Vb (Also (Also (More P w W4) Bx) wr.heap.size) t (es++UQ ps.length pre++PG x nx k) 4 (x:Int) (k:Int) w9 tV ht9 hle (by unfold Yu;omega));have hNK:Z8 (Also P (g+1+1)) W w9:=hk9;have HNK:=hide hNK;have dL:=hide hf9;clear hO hos tV hle hNK hk9 hf9 ht9 HSC Uo RO;gi_wp2_with fail
         case roundEnd =>
          rename_i h0
          exfalso
          simp at h0;omega
         clear hkx hkn hki zop;refine ⟨trivial,?_⟩;refine (CallsIn.inRound l (callsIn_wide.2 RU.out)).mono ?_;rintro e wn ⟨rfl,hkk,hmm,zpp⟩;have Tn:=T9.kept hkk (.inl (.inl l9.out));have Pn:=P9.kept hkk (.inl (.inl l8.out));have Sn:=S9.kept hkk (.inl (.inl dK.out));have On:=O9.kept hkk (.inl (.inl tL.out));have Xn:=X9.kept hkk (.inl (.inr rfl));have Bn:=B9.kept hkk (.inr rfl)
         have eY:∀ j,Also P (g+1+1) j->Also (Also (More P w W4) Bx) wr.heap.size j:=fun j hj=>by
          rcases hj with hj|hj
          · exact .inl (.inl (.inl hj))
          · subst hj;exact .inl (.inl HMV.out)
         have iR:Z8 (Also P (g+1+1)) W wn:=HNK.out.trans (hkk.mono eY);have zoj:KeepsFrom W4.heap.size W wn:=dL.out.trans (hmm.from zf.out);have hE9:∀ j,Also P (g+1+1) j->j<wn.drew.heap.size:=fun j hj=>Nat.lt_of_lt_of_le (Lu.out j hj) (Nat.le_trans hszW iR.size);have xO:=hide (Tv.out wn.drew ((HW.out.kept (Mv.out.trans ((hB1.trans iR).mono fun j h=>.inl h)) JO.out).step (ZV (Below.refl _ _))));clear hkk hmm eY HNK dL Tv RU T9 P9 S9 O9 X9 B9 e0 e1 t9 tZ a0 a1;gi_wp2_with fail;refine Xy 12 (S:=fun w'=>Z6 w' g 2 #[.int .i64 (Z5 ps)]/\Z6 w' Bx 300 #[.int .i64 (x:Int),.int .i64 (nx:Int),.int .i64 (Z4 ps x).1,.int .i64 (Z4 ps x).2,.int .i64 (Z4 ps nx).1,.int .i64 (Z4 ps nx).2]/\Z6 w' wr.heap.size 123 #[.int .i64 (Z4 ps k).1,.int .i64 (Z4 ps k).2]/\Z6 w' (g+1) 124 #[.int .u64 (Zy vk)]) Wj ?_;have hS:Z6 wn.drew g 2 #[.int .i64 (Z5 ps)]/\Z6 wn.drew Bx 300 #[.int .i64 (x:Int),.int .i64 (nx:Int),.int .i64 (Z4 ps x).1,.int .i64 (Z4 ps x).2,.int .i64 (Z4 ps nx).1,.int .i64 (Z4 ps nx).2]/\Z6 wn.drew wr.heap.size 123 #[.int .i64 (Z4 ps k).1,.int .i64 (Z4 ps k).2]/\Z6 wn.drew (g+1) 124 #[.int .u64 (Zy vk)]:=⟨Sn,Xn,Bn,On⟩;refine' ZU (i:=0) rfl ?Rh hS ?OY
         case Rh =>
          intro w' hSw;obtain ⟨s1,s2,s3,s4⟩:=hSw;have z1:=s1.q0 rfl;have z2:=s2.q2 rfl;have z3:=s2.q3 rfl;have z4:=s2.q4 rfl;have z5:=s2.q5 rfl;have z6:=s3.q0 rfl;have z7:=s3.q1 rfl;have z8:=s4.q0 rfl;go_simp;rfl
         simp only [Act.put,getElem_toArray,getElem_cons_zero,setIfInBounds_toArray,set_cons_zero,set_cons_succ];refine' ZU (i:=1) rfl ?Ri hS ?OZ
         case Ri =>
          intro w' hSw;go_simp;rfl
         simp only [Act.put,ZX];refine' ZU (i:=2) rfl ?OE hS ?LV
         case OE =>
          intro w' hSw;obtain ⟨s1,s2,s3,s4⟩:=hSw;have z1:=s1.q0 rfl;have z2:=s2.q2 rfl;have z3:=s2.q3 rfl;have z4:=s2.q4 rfl;have z5:=s2.q5 rfl;have z6:=s3.q0 rfl;have z7:=s3.q1 rfl;have z8:=s4.q0 rfl;go_simp;rfl
         simp only [Act.put,ZX];refine' ZU (i:=3) rfl ?OG hS ?LW
         case OG =>
          intro w' hSw;go_simp;rfl
         simp only [Act.put,ZX];refine' ZU (i:=4) rfl ?Kz hS ?F9
         case Kz =>
          intro w' hSw;obtain ⟨s1,s2,s3,s4⟩:=hSw;have z1:=s1.q0 rfl;have z2:=s2.q2 rfl;have z3:=s2.q3 rfl;have z4:=s2.q4 rfl;have z5:=s2.q5 rfl;have z6:=s3.q0 rfl;have z7:=s3.q1 rfl;have z8:=s4.q0 rfl;go_simp;rfl
         simp only [Act.put,ZX];refine' ZU (i:=5) rfl ?KA hS ?Ga
         case KA =>
          intro w' hSw;obtain ⟨s1,s2,s3,s4⟩:=hSw;have z1:=s1.q0 rfl;have z2:=s2.q2 rfl;have z3:=s2.q3 rfl;have z4:=s2.q4 rfl;have z5:=s2.q5 rfl;have z6:=s3.q0 rfl;have z7:=s3.q1 rfl;have z8:=s4.q0 rfl;go_simp;rfl
         simp only [Act.put,ZX];refine' ZU (i:=8) rfl ?zqf hS ?zlx
         case zqf =>
          intro w' hSw;obtain ⟨s1,s2,s3,s4⟩:=hSw;have z1:=s1.q0 rfl;have z2:=s2.q2 rfl;have z3:=s2.q3 rfl;have z4:=s2.q4 rfl;have z5:=s2.q5 rfl;have z6:=s3.q0 rfl;have z7:=s3.q1 rfl;have z8:=s4.q0 rfl;go_simp;rfl
         simp only [Act.put,ZX];refine' ZU (i:=9) rfl ?zqj hS ?zmb
         case zqj =>
          intro w' hSw;go_simp;rfl
         simp only [Act.put,ZX];refine Yi (i:=6) (by kernel_rfl) rfl ?_;intro K hK;rw [if_pos (by rfl)];go_simp;refine ⟨trivial,?_⟩;refine (CallsIn.inRound l (callsIn_wide.2 xO.out)).mono ?_;rintro e CG ⟨rfl,Uv⟩;have hS1:Z6 CG g 2 #[.int .i64 (Z5 ps)]/\Z6 CG Bx 300 #[.int .i64 (x:Int),.int .i64 (nx:Int),.int .i64 (Z4 ps x).1,.int .i64 (Z4 ps x).2,.int .i64 (Z4 ps nx).1,.int .i64 (Z4 ps nx).2]/\Z6 CG wr.heap.size 123 #[.int .i64 (Z4 ps k).1,.int .i64 (Z4 ps k).2]/\Z6 CG (g+1) 124 #[.int .u64 (Zy vk)]:=⟨Sn.drew.step Uv,Xn.drew.step Uv,Bn.drew.step Uv,On.drew.step Uv⟩;refine hK.out _ _ (fun _=>hS1) ?_;clear hK K
         (try simp only [Act.put,ZX])
         refine' ZU (i:=7) rfl ?zqe hS1 ?zlw
         case zqe =>
          intro w' hSw;go_simp;rfl
         simp only [Act.put,ZX];have HEQ:=hide (zK os (Z5 ps) CF (V4 ps) CG);refine Yi (i:=10) (by kernel_rfl) rfl ?_;intro K hK;rw [if_pos (by rfl)];go_simp;refine ⟨trivial,?_⟩;refine (CallsIn.inRound l (callsIn_wide.2 HEQ.out)).mono ?_;rintro e w' ⟨rfl,rfl⟩;refine hK.out _ _ (fun _=>hS1) ?_;clear hK K;have hand:=LM vk (decide (os=Z5 ps))
         (try simp only [Act.put,ZX])
         refine' ZU (i:=11) rfl ?jk hS1 ?zum
         case jk =>
          intro w' hSw;go_simp;rfl
         simp only [Act.put,ZX];obtain ⟨s10,x10,b10,o10⟩:=hS1;have c7:CG.cell? ⟨g+1,0,none⟩=some (.int .u64 (Zy vk)):=o10.q0 rfl;have f7:=o10.frozen 0;refine Yi (i:=12) (by kernel_rfl) rfl ?_;intro K hK;rw [if_pos (by rfl)];go_simp;refine hK.out _ _ (fun h=>absurd rfl h) ?_;clear hK K;refine WG (by kernel_rfl) ?_ _;have hk10:Z8 (Also P (g+1+1)) W (CG.setCell ⟨g+1,0,none⟩ (.int .u64 (Zy (vk && decide (os=Z5 ps))))):=iR.trans ((Z8.drew _ _).trans ((Z8.of_below Uv hE9).trans (Z8.setCell NZ.out _ _ _)));have zog:KeepsFrom W4.heap.size W (CG.setCell ⟨g+1,0,none⟩ (.int .u64 (Zy (vk && decide (os=Z5 ps))))):=zoj.trans ((KeepsFrom.of_below (ZV (Below.refl _ _))).trans ((KeepsFrom.of_below Uv).trans ((KeepsOthers.setCell _ _ _).from _)));have T10:=(Tn.drew.step Uv).far (p:=⟨g+1,0,none⟩) (by dsimp only;omega) (.int .u64 (Zy (vk && decide (os=Z5 ps))));have P10:=(Pn.drew.step Uv).far (p:=⟨g+1,0,none⟩) (by dsimp only;omega) (.int .u64 (Zy (vk && decide (os=Z5 ps))));have S10:=s10.far (p:=⟨g+1,0,none⟩) (by dsimp only;omega) (.int .u64 (Zy (vk && decide (os=Z5 ps))));have X10:=x10.far (p:=⟨g+1,0,none⟩) (by dsimp only;omega) (.int .u64 (Zy (vk && decide (os=Z5 ps))));have O10:=o10.set 0 (.int .u64 (Zy (vk && decide (os=Z5 ps))));have t10:=(zpp.drew.step Uv).set (.inl (.inl tL.out)) 0 (.int .u64 (Zy (vk && decide (os=Z5 ps))));have TT:=hide (VR.out _ ⟨T10,P10,S10⟩ O10 X10 hk10 zog t10);clear T10 P10 S10 X10 O10 hk10 zog t10 hand c7 f7 s10 x10 b10 o10 hS Uv Tn Pn Sn Xn On Bn iR zoj zpp hE9 VR xO HEQ;gi_wp2;go_roundw
         case rel=>exact ⟨k+1,by omega,by go_num,TT.out⟩
         case measure=>simp [intOf];omega
   · obtain rfl:k=ps.length:=(by omega);have HIV:=hide Or;rw [<- E8.out] at HIV;have zxh:=htr.mono (R:=More P w W4) fun j h=>.inl h;rw [List.append_assoc,<- HVE.out] at zxh;have Pw:=hide (show KeepsFrom W4.heap.size W wr/\Z8 (Also P (g+1+1)) W wr/\(((Z6 wr w.heap.size 51 #[.pointer (Zu t)]/\Z6 wr (w.heap.size+1) 59 #[.slice (some ⟨b,off,none⟩) ps.length c])/\Z6 wr g 2 #[.int .i64 (Z5 ps)])/\Z6 wr (g+1) 124 #[.int .u64 (Zy (vF (Z5 ps) ps (pre++[x])))])/\(Z8 (Also P (g+1+1)) W4 wr/\Tp wr (More P w W4) t (es++UQ ps.length (pre++[x]))) from ⟨hfr,hkr,⟨⟨⟨Tr,Pr⟩,Sr⟩,HIV.out⟩,hB1.trans hkr,zxh⟩);clear Tr Pr Sr Or Xr hkr hfr htr zxh HIV;gi_wp2;exact Pw.out
 case done =>
  rintro D zs W hD rfl ⟨⟨⟨⟨T1,P1⟩,S1⟩,O1⟩,hB1,hT1⟩ hK;have o1:=O1.q0 rfl;have hB2:Z8 P w W:=Mv.out.trans (hB1.mono fun k h=>.inl h);gi_wp2;refine ⟨by simp,.inl ⟨_,_,rfl,run_takeDeferred hK,?_⟩⟩;refine ⟨_,results_tmp rfl _ _ _,rfl,hB2.trans (Z8.putObj _ (fun h=>?_) _),?_⟩
  · have:=Lu.out D (.inl h);omega
  · exact (hT1.mono (R:=P) fun k h=>.inl h).putObj (fun u hu=>Nat.lt_of_lt_of_le (zf.out u hu) hD) hK rfl _
 case stop =>
  rintro D c pre W _ _ h _;exact h.elim
end
end Go.Proofs.YtfljlmleiggmjaaGreatDoor