/- Num2 RefNum5 RefNum7 -/
import Derived.BigQuiet
import Derived.Deep.AppendLies
import Derived.Deep.RegionHeld3
import Derived.Test.YthnenedoblncjaaGreatDoorPkN00
set_option maxRecDepth 1000000
set_option maxHeartbeats 8000000
namespace Go.Proofs.YthnenedoblncjaaGreatDoor
open Go.Proofs.Tryz
section
open Go.RowKit
def dval:List Nat->Nat
 | []=>0
 | d::l=>d+65536*dval l
def Uc(l:List Nat):Prop:=∀ d∈l,d<65536
def iB(l:List Nat):List Value:=l.map fun (d:Nat)=>Value.int .i64 (d:Int)
def zF(n:Nat):List Nat:=if h:n=0 then [] else n % 65536::zF (n / 65536)
 termination_by n
 decreasing_by omega
theorem Uc.at_{l:List Nat}(h:Uc l){i d:Nat}(hi:l[i]?=some d):d<65536:=h d (List.mem_of_getElem? hi)
theorem Uc.take{l:List Nat}(h:Uc l)(n:Nat):Uc (l.take n):=fun d hd=>h d (List.mem_of_mem_take hd)
theorem Uc.snoc{l:List Nat}(h:Uc l){d:Nat}(hd:d<65536):Uc (l++[d]):=fun x hx=>by
 rcases List.mem_append.1 hx with h1|h1
 · exact h x h1
 · rw [List.mem_singleton.1 h1];exact hd
theorem OB:∀ (a b:List Nat),dval (a++b)=dval a+65536 ^ a.length*dval b
 | [],b=>by simp [dval]
 | d::a,b=>by
   rw [List.cons_append,dval,dval,OB a b,List.length_cons,Nat.pow_succ,Nat.mul_add,Nat.add_assoc,Nat.mul_comm (65536 ^ a.length) 65536,Nat.mul_assoc]
theorem VO(a:List Nat)(d:Nat):dval (a++[d])=dval a+65536 ^ a.length*d:=by rw [OB];simp [dval]
theorem VP{l:List Nat}{i d:Nat}(h:l[i]?=some d):dval (l.take (i+1))=dval (l.take i)+65536 ^ i*d:=by
 have hi:i<l.length:=(List.getElem?_eq_some_iff.1 h).1;rw [List.take_add_one,h,Option.toList_some,VO,List.length_take,Nat.min_eq_left (Nat.le_of_lt hi)]
theorem LD:∀ {l:List Nat},Uc l->dval l<65536 ^ l.length
 | [],_=>by simp [dval]
 | d::l,h=>by
   have h1:=LD (l:=l) fun x hx=>h x (List.mem_cons_of_mem _ hx);have h2:=h d (List.mem_cons_self ..);rw [dval,List.length_cons,Nat.pow_succ];omega
end
section
open Go.RowKit
def UQ(l:List Nat)(k:Nat):Nat:=l[k]?.getD 0
theorem GX{l:List Nat}(h:Uc l)(k:Nat):UQ l k<65536:=by
 unfold UQ;cases hk:l[k]? with
 | none=>simp
 | some d=>exact h.at_ hk
theorem Vm(l:List Nat)(k:Nat):dval (l.take (k+1))=dval (l.take k)+65536 ^ k*UQ l k:=by
 unfold UQ;cases hk:l[k]? with
 | none =>
   have:=List.getElem?_eq_none_iff.1 hk;rw [List.take_of_length_le (by omega),List.take_of_length_le (by omega)];simp
 | some d=>exact VP hk
def Ma(a b:List Nat)(k c:Nat)(o:List Nat):Prop :=
 o.length=k/\Uc o/\c<=1/\dval o+65536 ^ k*c=dval (a.take k)+dval (b.take k)/\k<=max a.length b.length+1/\(k=max a.length b.length+1->c=0)
theorem Ma.start(a b:List Nat):Ma a b 0 0 []:=⟨rfl,fun d hd=>by simp at hd,by omega,by simp [dval],by omega,fun _=>rfl⟩
theorem Ma.step{a b o:List Nat}{k c:Nat}(ha:Uc a)(hb:Uc b)(h:Ma a b k c o)(hk:k<a.length\/k<b.length\/0<c):
 Ma a b (k+1) ((UQ a k+UQ b k+c) / 65536) (o++[(UQ a k+UQ b k+c) % 65536]):=by
 obtain ⟨h1,h2,h3,h4,h5,h6⟩:=h;have x1:=GX ha k;have x2:=GX hb k;have hk':k<=max a.length b.length:=by
  rcases Nat.lt_or_ge k (max a.length b.length+1) with h|h
  · omega
  · have:k=max a.length b.length+1:=(by omega);have:=h6 this;omega
 refine ⟨by simp [h1],h2.snoc (by omega),by omega,?_,by omega,fun he=>?_⟩
 · rw [VO,h1,Vm,Vm,Nat.pow_succ];have e:=Nat.div_add_mod (UQ a k+UQ b k+c) 65536;have e2:65536 ^ k*((UQ a k+UQ b k+c) % 65536)+65536 ^ k*65536*((UQ a k+UQ b k+c) / 65536)=65536 ^ k*UQ a k+65536 ^ k*UQ b k+65536 ^ k*c:=by
    rw [Nat.mul_assoc,<- Nat.mul_add,Nat.add_comm ((UQ a k+UQ b k+c) % 65536),e,Nat.mul_add,Nat.mul_add]
   omega
 · have ea:UQ a k=0:=(by unfold UQ;rw [List.getElem?_eq_none (by omega)];rfl);have eb:UQ b k=0:=(by unfold UQ;rw [List.getElem?_eq_none (by omega)];rfl);rw [ea,eb];omega
theorem Ma.done{a b o:List Nat}{k c:Nat}(h:Ma a b k c o)(hk:¬ (k<a.length\/k<b.length\/0<c)):Uc o/\dval o=dval a+dval b/\o.length<=max a.length b.length+1:=by
 obtain ⟨h1,h2,h3,h4,h5,h6⟩:=h;rw [List.take_of_length_le (by omega),List.take_of_length_le (by omega),show c=0 by omega] at h4;exact ⟨h2,by simpa using h4,by omega⟩
def Mh(a b:List Nat)(k c:Nat)(o:List Nat):Prop :=
 o.length=k/\Uc o/\c<=1/\dval o+dval (b.take k)=dval (a.take k)+65536 ^ k*c
theorem Mh.start(a b:List Nat):Mh a b 0 0 []:=⟨rfl,fun d hd=>by simp at hd,by omega,by simp [dval]⟩
theorem Mh.keep{a b o:List Nat}{k c x:Nat}(h:Mh a b k c o)(ha:Uc a)(hx:a[k]?=some x)(hs:UQ b k+c<=x):
 Mh a b (k+1) 0 (o++[x - UQ b k - c]):=by
 obtain ⟨h1,h2,h3,h4⟩:=h;have x1:=ha.at_ hx;refine ⟨by simp [h1],h2.snoc (by omega),by omega,?_⟩;rw [VO,h1,Vm,VP hx];have e:65536 ^ k*(x - UQ b k - c)+65536 ^ k*UQ b k+65536 ^ k*c=65536 ^ k*x:=by
  rw [<- Nat.mul_add,<- Nat.mul_add,show x - UQ b k - c+UQ b k+c=x by omega]
 omega
theorem Mh.done{a b o:List Nat}{c:Nat}(h:Mh a b a.length c o)(hl:b.length<=a.length)(hv:dval b<=dval a):Uc o/\dval o=dval a - dval b/\o.length=a.length:=by
 obtain ⟨h1,h2,h3,h4⟩:=h;rw [List.take_length,List.take_of_length_le hl] at h4;have hlt:=LD h2;rw [h1] at hlt;have hc:c=0:=by
  rcases Nat.lt_or_ge 0 c with h|h
  · have:c=1:=(by omega);subst this;omega
  · omega
 subst hc;exact ⟨h2,by omega,h1⟩
theorem OC{l:List Nat}{i x y:Nat}(h:l[i]?=some x):dval (l.set i y)+65536 ^ i*x=dval l+65536 ^ i*y:=by
 induction l generalizing i with
 | nil=>simp at h
 | cons d l ih =>
   cases i with
   | zero=>simp at h;subst h;simp [dval];omega
   | succ i =>
     have h':=ih (i:=i) (by simpa using h);rw [List.set_cons_succ,dval,dval,Nat.pow_succ];have e1:65536 ^ i*65536*x=65536*(65536 ^ i*x):=(by rw [Nat.mul_comm (65536 ^ i) 65536,Nat.mul_assoc]);have e2:65536 ^ i*65536*y=65536*(65536 ^ i*y):=(by rw [Nat.mul_comm (65536 ^ i) 65536,Nat.mul_assoc]);omega
theorem Lx{l:List Nat}(h:Uc l)(i:Nat){y:Nat}(hy:y<65536):Uc (l.set i y):=fun d hd=>by
 rcases List.mem_or_eq_of_mem_set hd with h1|h1
 · exact h d h1
 · omega
def Js(l:List Nat)(k:Nat):Prop:=∀ i,k<=i->i<l.length->l[i]?=some 0
def Mg(a b:List Nat)(k:Nat)(o:List Nat):Prop :=
 o.length=a.length+b.length/\Uc o/\dval o=dval (a.take k)*dval b/\Js o (k+b.length)
def JN(o0 b:List Nat)(x k j c:Nat)(o:List Nat):Prop :=
 o.length=o0.length/\Uc o/\c<65536/\dval o+65536 ^ (k+j)*c=dval o0+65536 ^ k*(x*dval (b.take j))/\(∀ i,k+j<=i->o[i]?=o0[i]?)
theorem JN.start{o0 b:List Nat}(x k:Nat)(h:Uc o0):JN o0 b x k 0 0 o0:=⟨rfl,h,by omega,by simp [dval],fun _ _=>rfl⟩
theorem JN.step{o0 b o:List Nat}{x k j c y z:Nat}(h:JN o0 b x k j c o)(hx:x<65536)(hy:y<65536)(hb:b[j]?=some y)(ho:o[k+j]?=some z):
 JN o0 b x k (j+1) ((z+x*y+c) / 65536) (o.set (k+j) ((z+x*y+c) % 65536)):=by
 obtain ⟨h1,h2,h3,h4,h5⟩:=h;have hz:=h2.at_ ho;have hxy:x*y<=65535*65535:=Nat.mul_le_mul (by omega) (by omega);refine ⟨by simp [h1],Lx h2 _ (by omega),by omega,?_,fun i hi=>?_⟩
 · have e:=OC (y:=(z+x*y+c) % 65536) ho;rw [VP hb,Nat.mul_add,Nat.mul_add,show k+(j+1)=(k+j)+1 by omega,Nat.pow_succ];have e2:=Nat.div_add_mod (z+x*y+c) 65536;have e3:65536 ^ (k+j)*((z+x*y+c) % 65536)+65536 ^ (k+j)*65536*((z+x*y+c) / 65536)=65536 ^ (k+j)*z+65536 ^ (k+j)*(x*y)+65536 ^ (k+j)*c:=by
    rw [Nat.mul_assoc,<- Nat.mul_add,Nat.add_comm ((z+x*y+c) % 65536),e2,Nat.mul_add,Nat.mul_add]
   have e4:65536 ^ k*(x*(65536 ^ j*y))=65536 ^ (k+j)*(x*y):=by
    rw [Nat.pow_add,Nat.mul_assoc,<- Nat.mul_assoc x,Nat.mul_comm x,Nat.mul_assoc]
   omega
 · rw [List.getElem?_set_ne (by omega)];exact h5 i (by omega)
theorem Mg.start(a b:List Nat):Mg a b 0 (List.replicate (a.length+b.length) 0):=by
 refine ⟨by simp,fun d hd=>by rw [(List.mem_replicate.1 hd).2];omega,?_,fun i _ hi=>?_⟩
 · have:∀ n,dval (List.replicate n 0)=0:=fun n=>by induction n with
    | zero=>rfl
    | succ n ih=>rw [List.replicate_succ,dval,ih]
   rw [this];simp [dval]
 · rw [List.getElem?_replicate,if_pos (by simpa using hi)]
theorem Mg.step{a b o o2:List Nat}{x k c:Nat}(h:Mg a b k o)(ha:a[k]?=some x)(h2:JN o b x k b.length c o2):
 o2[k+b.length]?=some 0/\Mg a b (k+1) (o2.set (k+b.length) c):=by
 obtain ⟨h1,h3,h4,h5⟩:=h;obtain ⟨i1,i2,i3,i4,i5⟩:=h2;have hk:k<a.length:=(List.getElem?_eq_some_iff.1 ha).1;have hz:o2[k+b.length]?=some 0:=by rw [i5 _ (Nat.le_refl _)];exact h5 _ (Nat.le_refl _) (by omega)
 refine ⟨hz,by simp [i1,h1],Lx i2 _ i3,?_,fun i hi hl=>?_⟩
 · have e:=OC (y:=c) hz;rw [List.take_length] at i4;rw [VP ha,Nat.add_mul,<- h4,Nat.mul_assoc];omega
 · rw [List.getElem?_set_ne (by omega),i5 i (by omega)];exact h5 i (by omega) (by simp at hl;omega)
theorem Mg.done{a b o:List Nat}(h:Mg a b a.length o):Uc o/\dval o=dval a*dval b/\o.length=a.length+b.length:=by
 obtain ⟨h1,h3,h4,h5⟩:=h;rw [List.take_length] at h4;exact ⟨h3,h4,h1⟩
def QV(w:World)(P:Nat->Prop)(A:Option Addr)(xs:List Value):Prop :=
 xs=[]\/∃ b off,A=some ⟨b,off,none⟩/\P b/\∀ j u,xs[j]?=some u->w.cell? ⟨b,off+j,none⟩=some u
section
variable {w w':World}{P R:Nat->Prop}{A:Option Addr}{xs:List Value}
theorem QV.sl{B:Nat}(h:QV w P A xs)(hP:∀ k,P k->k<B):Sl w B A xs:=by
 rcases h with h|⟨b,off,hA,hb,hc⟩
 · exact .inl h
 · exact .inr ⟨b,off,hA,hP _ hb,hc⟩
theorem QV.mono(h:QV w P A xs)(hR:∀ k,P k->R k):QV w R A xs:=by
 rcases h with h|⟨b,off,hA,hb,hc⟩
 · exact .inl h
 · exact .inr ⟨b,off,hA,hR _ hb,hc⟩
theorem QV.at_(h:QV w P A xs)(hk:∀ b,P b->b<w.heap.size->w'.heap[b]?=w.heap[b]?):QV w' P A xs:=by
 rcases h with h|⟨b,off,hA,hb,hc⟩
 · exact .inl h
 · by_cases hx:xs=[]
   · exact .inl hx
   · refine .inr ⟨b,off,hA,hb,fun j u hu=>?_⟩;obtain ⟨x,xs',rfl⟩:=List.exists_cons_of_ne_nil hx;have h0:=hc 0 x rfl;exact (World.cell?_of_block (hk b hb (ZG h0))).trans (hc j u hu)
theorem QV.below(h:QV w P A xs)(hb:Below w.heap.size w w'):QV w' P A xs:=h.at_ fun b _ hl=>hb.block b hl
theorem QV.lt(h:QV w P A xs):QV w (fun k=>P k/\k<w.heap.size) A xs:=by
 rcases h with h|⟨b,off,hA,hb,hc⟩
 · exact .inl h
 · by_cases hx:xs=[]
   · exact .inl hx
   · obtain ⟨x,xs',rfl⟩:=List.exists_cons_of_ne_nil hx;exact .inr ⟨b,off,hA,⟨hb,ZG (hc 0 x rfl)⟩,hc⟩
theorem QV.any(h:QV w P A xs):Sl w w.heap.size A xs:=h.lt.sl fun _ hk=>hk.2
theorem QV.take(h:QV w P A xs)(k:Nat):QV w P A (xs.take k):=by
 rcases h with h|⟨b,off,hA,hB,hc⟩
 · exact .inl (by simp [h])
 · exact .inr ⟨b,off,hA,hB,fun j u hu=>by
    rw [List.getElem?_take] at hu;split at hu
    · exact hc j u hu
    · cases hu⟩
end
end
section
open Go.RowKit
theorem Uw {fn:Func} {tmps:Array Value} {w:World} {g k:Nat} {v0 v1:Value} (h:fn.results=#[.cell k 81])
 (hp:tmps.getD k undef=.pointer (some ⟨g,0,none⟩)) (hb:Z6 w g 81 #[v0,v1]) :
 (results fn tmps).run prog w=.ok (.agg #[v0,v1]) w:=by
 have c0:=hb.q0 rfl;have c1:=hb.q1 rfl;have hp':tmps[k]?.getD undef=.pointer (some ⟨g,0,none⟩):=by rw [<- hp];simp
 simp [results,h,hp',go_sem,c0,c1]
def WB(w:World)(P:Nat->Prop)(n:Int)(A:Option Addr)(c:Nat):Prop:=QV w P A (iB (zF n.natAbs))/\(zF n.natAbs).length<=c/\c<=maxLen
def Up(w:World)(P:Nat->Prop):Prop:=∀ k,w.heap.size<=k->P k
theorem Up.of{w w':World}{P:Nat->Prop}(h:Up w P)(hs:w.heap.size<=w'.heap.size):Up w' P:=fun k hk=>h k (by omega)
section
variable {w w':World}{P R:Nat->Prop}{n:Int}{A:Option Addr}{c:Nat}
theorem WB.step(h:WB w P n A c)(hb:Below w.heap.size w w'):WB w' P n A c:=⟨h.1.below hb,h.2⟩
theorem WB.at_(h:WB w P n A c)(hk:∀ b,P b->b<w.heap.size->w'.heap[b]?=w.heap[b]?):WB w' P n A c:=⟨h.1.at_ hk,h.2⟩
theorem WB.mono(h:WB w P n A c)(hR:∀ k,P k->R k):WB w R n A c:=⟨h.1.mono hR,h.2⟩
theorem WB.set{g i:Nat}(h:WB w (fun k=>P k/\k≠g) n A c)(u:Value):WB (w.setCell ⟨g,i,none⟩ u) (fun k=>P k/\k≠g) n A c :=
 h.at_ fun b hb _=>Below.heap_setCell _ _ _ _ (by exact hb.2)
end
end
section
open Go.RowKit
def Me(m k y:Nat)(o:List Nat):Prop:=o.length=k/\Uc o/\k<=4/\y<65536 ^ (4 - k)/\dval o+65536 ^ k*y=m
theorem Me.start{m:Nat}(h:m<18446744073709551616):Me m 0 m []:=⟨rfl,fun d hd=>by simp at hd,by omega,by simpa using h,by simp [dval]⟩
theorem Me.step{m k y:Nat}{o:List Nat}(h:Me m k y o)(hy:0<y):k<4/\Me m (k+1) (y / 65536) (o++[y % 65536]):=by
 obtain ⟨h1,h2,h3,h4,h5⟩:=h;have hk:k<4:=by
  rcases Nat.lt_or_ge k 4 with h|h
  · exact h
  · rw [show 4 - k=0 by omega,Nat.pow_zero] at h4;omega
 refine ⟨hk,by simp [h1],h2.snoc (by omega),by omega,?_,?_⟩
 · rw [show 4 - k=(4 - (k+1))+1 by omega,Nat.pow_succ] at h4;omega
 · rw [VO,h1,Nat.pow_succ,Nat.mul_assoc];have e:65536 ^ k*(y % 65536)+65536 ^ k*(65536*(y / 65536))=65536 ^ k*y:=by
    rw [<- Nat.mul_add,Nat.mod_add_div]
   omega
theorem Me.done{m k:Nat}{o:List Nat}(h:Me m k 0 o):Uc o/\dval o=m:=⟨h.2.1,by simpa using h.2.2.2.2⟩
end
section
open Go.RowKit
def Cw(w:World)(a:Addr):Value:=(w.cell? a).getD undef
theorem Cw.of{w:World}{a:Addr}{v:Value}(h:w.cell? a=some v):w.cell? a=some (Cw w a):=by unfold Cw;rw [h];rfl
def R2(w:World)(g:Nat):Prop:=∃ u v,Z6 w g 81 #[u,v]
abbrev XB(w:World)(n0 g1 g2 g:Nat)(v0 v1 u0 u1:Value)(w':World):Prop :=
 (Below w.heap.size w w'/\n0<=w'.heap.size/\R2 w' g)/\w'.cell? ⟨g1,0,none⟩=some v0/\w'.cell? ⟨g1,1,none⟩=some v1/\w'.cell? ⟨g2,0,none⟩=some u0/\w'.cell? ⟨g2,1,none⟩=some u1 /\
 w'.cell? ⟨g,0,none⟩=some (Cw w' ⟨g,0,none⟩)/\w'.cell? ⟨g,1,none⟩=some (Cw w' ⟨g,1,none⟩)/\w'.frozen? ⟨g,0,none⟩=false/\w'.frozen? ⟨g,1,none⟩=false
section
variable {w wk w':World}{n0 g1 g2 g:Nat}{v0 v1 u0 u1:Value}
theorem XB.mk'(hb:Below w.heap.size w w')(hn:n0<=w'.heap.size)(hr:R2 w' g)(h1:w'.cell? ⟨g1,0,none⟩=some v0)(h2:w'.cell? ⟨g1,1,none⟩=some v1)(h3:w'.cell? ⟨g2,0,none⟩=some u0)(h4:w'.cell? ⟨g2,1,none⟩=some u1):
 XB w n0 g1 g2 g v0 v1 u0 u1 w':=by
 have hr':=hr;obtain ⟨u,v,hB⟩:=hr';exact ⟨⟨hb,hn,hr⟩,h1,h2,h3,h4,Cw.of (hB.q0 rfl),Cw.of (hB.q1 rfl),hB.frozen 0,hB.frozen 1⟩
theorem XB.keep(h:XB w n0 g1 g2 g v0 v1 u0 u1 wk)(hb:Below wk.heap.size wk w'):XB w n0 g1 g2 g v0 v1 u0 u1 w':=by
 have on:∀ {b o:Nat} {v:Value},wk.cell? ⟨b,o,none⟩=some v->w'.cell? ⟨b,o,none⟩=some v:=fun h=>(hb.cell (p:=⟨_,_,none⟩) (ZG h)).trans h;obtain ⟨⟨h0,hn,u,v,hB⟩,h1,h2,h3,h4,_⟩:=h;exact XB.mk' (Z8 h0 hb) (Nat.le_trans hn hb.size) ⟨u,v,hB.step hb⟩ (on h1) (on h2) (on h3) (on h4)
theorem XB.set2(h:XB w n0 g1 g2 g v0 v1 u0 u1 wk)(h1:g1≠g)(h2:g2≠g)(hg:w.heap.size<=g)(x y:Value):XB w n0 g1 g2 g v0 v1 u0 u1 ((wk.setCell ⟨g,0,none⟩ x).setCell ⟨g,1,none⟩ y):=by
 have on:∀ {b o:Nat} {v:Value},b≠g->wk.cell? ⟨b,o,none⟩=some v->((wk.setCell ⟨g,0,none⟩ x).setCell ⟨g,1,none⟩ y).cell? ⟨b,o,none⟩=some v:=fun hb h=>by
  rw [World.cell?_of_block (Below.heap_setCell _ _ _ _ (by exact hb)),World.cell?_of_block (Below.heap_setCell _ _ _ _ (by exact hb))];exact h
 obtain ⟨⟨h0,hn,u,v,hB⟩,c1,c2,c3,c4,_⟩:=h;exact XB.mk' ((h0.setCell (by exact hg) _).setCell (by exact hg) _) (by simpa [World.size_setCell] using hn) ⟨_,_,(hB.set 0 x).set 1 y⟩ (on h1 c1) (on h1 c2) (on h2 c3) (on h2 c4)
theorem XB.row(h:XB w n0 g1 g2 g v0 v1 u0 u1 wk):R2 wk g:=h.1.2.2
theorem R2.run{fn:Func}{tmps:Array Value}{w5:World}{k g:Nat}{v0 v1:Value}(h:R2 w5 g)(hr:fn.results=#[.cell k 81])(hp:tmps.getD k undef=.pointer (some ⟨g,0,none⟩)):
 (results fn tmps).run prog ((w5.setCell ⟨g,0,none⟩ v0).setCell ⟨g,1,none⟩ v1)=.ok (.agg #[v0,v1]) ((w5.setCell ⟨g,0,none⟩ v0).setCell ⟨g,1,none⟩ v1):=by
 obtain ⟨u,v,hB⟩:=h;exact Uw hr hp ((hB.set 0 v0).set 1 v1)
theorem XB.below(h:XB w n0 g1 g2 g v0 v1 u0 u1 wk):Below w.heap.size w wk:=h.1.1
end
theorem add_zero(s2:Int)(m n:Nat)(A B:Option Addr)(c d:Nat)(w:World):
 Calls prog 73 #[.agg #[.int .i64 0,.slice A m c],.agg #[.int .i64 s2,.slice B n d]] w fun e w'=>e=.returned (.agg #[.int .i64 s2,.slice B n d])/\Below w.heap.size w w':=by
 go_enter func73,ntmps73;go_wp2;have h:=Z6.new ((w.alloc (.cells #[.int .i64 0,.slice A m c] 81)).alloc (.cells #[.int .i64 s2,.slice B n d] 81)) 81 #[.int .i64 s2,.slice B n d];refine bodyPost_ret (Uw rfl rfl (by simpa using h)) rfl ?_;exact ⟨rfl,ZY (ZY (bA) _) _⟩
end
section
open Go.RowKit
theorem Tv(n:Int):n.sign=-1/\n<0\/n.sign=0/\n=0\/n.sign=1/\0<n:=by
 rcases Int.lt_trichotomy n 0 with h|h|h
 · exact .inl ⟨Int.sign_eq_neg_one_of_neg h,h⟩
 · exact .inr (.inl ⟨by rw [h];rfl,h⟩)
 · exact .inr (.inr ⟨Int.sign_eq_one_of_pos h,h⟩)
end
end Go.Proofs.YthnenedoblncjaaGreatDoor