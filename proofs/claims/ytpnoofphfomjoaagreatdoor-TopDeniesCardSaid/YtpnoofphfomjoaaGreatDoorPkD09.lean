/- Num2 -/
import Derived.Test.YtpnoofphfomjoaaGreatDoorPkM00
set_option maxRecDepth 1000000
set_option maxHeartbeats 8000000
namespace Go.Proofs.YtpnoofphfomjoaaGreatDoor
section
open Go.RowKit
def dval:List Nat→Nat
 | []=>0
 | d::l=>d+65536*dval l
def dOk (l:List Nat):Prop:=∀ d∈l,d<65536
def dCs (l:List Nat):List Value:=l.map fun (d:Nat)=>Value.int .i64 (d:Int)
def digs (n:Nat):List Nat:=if h:n=0 then [] else n % 65536::digs (n / 65536)
termination_by n
decreasing_by omega
theorem dCs_length (l:List Nat):(dCs l).length=l.length:=by simp [dCs]
theorem dCs_get {l:List Nat} {i d:Nat} (h:l[i]?=some d):(dCs l)[i]?=some (.int .i64 (d:Int)):=by unfold dCs;rw [List.getElem?_map,h];rfl
theorem dOk.at_ {l:List Nat} (h:dOk l) {i d:Nat} (hi:l[i]?=some d):d<65536:=h d (List.mem_of_getElem? hi)
theorem dOk.take {l:List Nat} (h:dOk l) (n:Nat):dOk (l.take n):=fun d hd=>h d (List.mem_of_mem_take hd)
theorem dOk.snoc {l:List Nat} (h:dOk l) {d:Nat} (hd:d<65536):dOk (l++[d]):=fun x hx=>by
 rcases List.mem_append.1 hx with h1 | h1
 · exact h x h1
 · rw [List.mem_singleton.1 h1];exact hd
theorem dval_app:∀ (a b:List Nat),dval (a++b)=dval a+65536 ^ a.length*dval b
 | [],b=>by simp [dval]
 | d::a,b=>by
   rw [List.cons_append,dval,dval,dval_app a b,List.length_cons,Nat.pow_succ,Nat.mul_add,Nat.add_assoc,Nat.mul_comm (65536 ^ a.length) 65536,Nat.mul_assoc]
theorem dval_snoc (a:List Nat) (d:Nat):dval (a++[d])=dval a+65536 ^ a.length*d:=by rw [dval_app];simp [dval]
theorem dval_take {l:List Nat} {i d:Nat} (h:l[i]?=some d):dval (l.take (i+1))=dval (l.take i)+65536 ^ i*d:=by
 have hi:i<l.length:=(List.getElem?_eq_some_iff.1 h).1
 rw [List.take_add_one,h,Option.toList_some,dval_snoc,List.length_take,Nat.min_eq_left (Nat.le_of_lt hi)]
theorem dval_lt:∀ {l:List Nat},dOk l→dval l<65536 ^ l.length
 | [],_=>by simp [dval]
 | d::l,h=>by
   have h1:=dval_lt (l:=l) fun x hx=>h x (List.mem_cons_of_mem _ hx)
   have h2:=h d (List.mem_cons_self ..)
   rw [dval,List.length_cons,Nat.pow_succ]
   omega
end
section
open Go.RowKit
def dig (l:List Nat) (k:Nat):Nat:=l[k]?.getD 0
theorem dig_lt {l:List Nat} (h:dOk l) (k:Nat):dig l k<65536:=by
 unfold dig
 cases hk:l[k]? with
 | none=>simp
 | some d=>exact h.at_ hk
theorem dval_takeD (l:List Nat) (k:Nat):dval (l.take (k+1))=dval (l.take k)+65536 ^ k*dig l k:=by
 unfold dig
 cases hk:l[k]? with
 | none =>
   have:=List.getElem?_eq_none_iff.1 hk
   rw [List.take_of_length_le (by omega),List.take_of_length_le (by omega)];simp
 | some d=>exact dval_take hk
def AddD (a b:List Nat) (k c:Nat) (o:List Nat):Prop :=
 o.length=k∧dOk o∧c≤1∧dval o+65536 ^ k*c=dval (a.take k)+dval (b.take k)∧k≤max a.length b.length+1∧(k=max a.length b.length+1→c=0)
theorem AddD.start (a b:List Nat):AddD a b 0 0 []:=⟨rfl,fun d hd=>by simp at hd,by omega,by simp [dval],by omega,fun _=>rfl⟩
theorem AddD.step {a b o:List Nat} {k c:Nat} (ha:dOk a) (hb:dOk b) (h:AddD a b k c o) (hk:k<a.length∨k<b.length∨0<c) :
 AddD a b (k+1) ((dig a k+dig b k+c) / 65536) (o++[(dig a k+dig b k+c) % 65536]):=by
 obtain ⟨h1,h2,h3,h4,h5,h6⟩:=h
 have x1:=dig_lt ha k
 have x2:=dig_lt hb k
 have hk':k≤max a.length b.length:=by
  rcases Nat.lt_or_ge k (max a.length b.length+1) with h | h
  · omega
  · have:k=max a.length b.length+1:=by omega
    have:=h6 this
    omega
 refine ⟨by simp [h1],h2.snoc (by omega),by omega,?_,by omega,fun he=>?_⟩
 · rw [dval_snoc,h1,dval_takeD,dval_takeD,Nat.pow_succ]
   have e:=Nat.div_add_mod (dig a k+dig b k+c) 65536
   have e2:65536 ^ k*((dig a k+dig b k+c) % 65536)+65536 ^ k*65536*((dig a k+dig b k+c) / 65536)=65536 ^ k*dig a k+65536 ^ k*dig b k+65536 ^ k*c:=by
    rw [Nat.mul_assoc,← Nat.mul_add,Nat.add_comm ((dig a k+dig b k+c) % 65536),e,Nat.mul_add,Nat.mul_add]
   omega
 · have ea:dig a k=0:=by unfold dig;rw [List.getElem?_eq_none (by omega)];rfl
   have eb:dig b k=0:=by unfold dig;rw [List.getElem?_eq_none (by omega)];rfl
   rw [ea,eb];omega
theorem AddD.done {a b o:List Nat} {k c:Nat} (h:AddD a b k c o) (hk:¬ (k<a.length∨k<b.length∨0<c)):dOk o∧dval o=dval a+dval b∧o.length≤max a.length b.length+1:=by
 obtain ⟨h1,h2,h3,h4,h5,h6⟩:=h
 rw [List.take_of_length_le (by omega),List.take_of_length_le (by omega),show c=0 by omega] at h4
 exact ⟨h2,by simpa using h4,by omega⟩
def SubD (a b:List Nat) (k c:Nat) (o:List Nat):Prop :=
 o.length=k∧dOk o∧c≤1∧dval o+dval (b.take k)=dval (a.take k)+65536 ^ k*c
theorem SubD.start (a b:List Nat):SubD a b 0 0 []:=⟨rfl,fun d hd=>by simp at hd,by omega,by simp [dval]⟩
theorem SubD.keep {a b o:List Nat} {k c x:Nat} (h:SubD a b k c o) (ha:dOk a) (hx:a[k]?=some x) (hs:dig b k+c≤x) :
 SubD a b (k+1) 0 (o++[x - dig b k - c]):=by
 obtain ⟨h1,h2,h3,h4⟩:=h
 have x1:=ha.at_ hx
 refine ⟨by simp [h1],h2.snoc (by omega),by omega,?_⟩
 rw [dval_snoc,h1,dval_takeD,dval_take hx]
 have e:65536 ^ k*(x - dig b k - c)+65536 ^ k*dig b k+65536 ^ k*c=65536 ^ k*x:=by
  rw [← Nat.mul_add,← Nat.mul_add,show x - dig b k - c+dig b k+c=x by omega]
 omega
theorem SubD.done {a b o:List Nat} {c:Nat} (h:SubD a b a.length c o) (hl:b.length≤a.length) (hv:dval b≤dval a):dOk o∧dval o=dval a - dval b∧o.length=a.length:=by
 obtain ⟨h1,h2,h3,h4⟩:=h
 rw [List.take_length,List.take_of_length_le hl] at h4
 have hlt:=dval_lt h2
 rw [h1] at hlt
 have hc:c=0:=by
  rcases Nat.lt_or_ge 0 c with h | h
  · have:c=1:=by omega
    subst this
    omega
  · omega
 subst hc
 exact ⟨h2,by omega,h1⟩
theorem dval_set {l:List Nat} {i x y:Nat} (h:l[i]?=some x):dval (l.set i y)+65536 ^ i*x=dval l+65536 ^ i*y:=by
 induction l generalizing i with
 | nil=>simp at h
 | cons d l ih =>
   cases i with
   | zero=>simp at h;subst h;simp [dval];omega
   | succ i =>
     have h':=ih (i:=i) (by simpa using h)
     rw [List.set_cons_succ,dval,dval,Nat.pow_succ]
     have e1:65536 ^ i*65536*x=65536*(65536 ^ i*x):=by rw [Nat.mul_comm (65536 ^ i) 65536,Nat.mul_assoc]
     have e2:65536 ^ i*65536*y=65536*(65536 ^ i*y):=by rw [Nat.mul_comm (65536 ^ i) 65536,Nat.mul_assoc]
     omega
theorem dOk_set {l:List Nat} (h:dOk l) (i:Nat) {y:Nat} (hy:y<65536):dOk (l.set i y):=fun d hd=>by
 rcases List.mem_or_eq_of_mem_set hd with h1 | h1
 · exact h d h1
 · omega
def zeroFrom (l:List Nat) (k:Nat):Prop:=∀ i,k≤i→i<l.length→l[i]?=some 0
def MulO (a b:List Nat) (k:Nat) (o:List Nat):Prop :=
 o.length=a.length+b.length∧dOk o∧dval o=dval (a.take k)*dval b∧zeroFrom o (k+b.length)
def MulI (o0 b:List Nat) (x k j c:Nat) (o:List Nat):Prop :=
 o.length=o0.length∧dOk o∧c<65536∧dval o+65536 ^ (k+j)*c=dval o0+65536 ^ k*(x*dval (b.take j))∧(∀ i,k+j≤i→o[i]?=o0[i]?)
theorem MulI.start {o0 b:List Nat} (x k:Nat) (h:dOk o0):MulI o0 b x k 0 0 o0:=⟨rfl,h,by omega,by simp [dval],fun _ _=>rfl⟩
theorem MulI.step {o0 b o:List Nat} {x k j c y z:Nat} (h:MulI o0 b x k j c o) (hx:x<65536) (hy:y<65536) (hb:b[j]?=some y) (ho:o[k+j]?=some z) :
 MulI o0 b x k (j+1) ((z+x*y+c) / 65536) (o.set (k+j) ((z+x*y+c) % 65536)):=by
 obtain ⟨h1,h2,h3,h4,h5⟩:=h
 have hz:=h2.at_ ho
 have hxy:x*y≤65535*65535:=Nat.mul_le_mul (by omega) (by omega)
 refine ⟨by simp [h1],dOk_set h2 _ (by omega),by omega,?_,fun i hi=>?_⟩
 · have e:=dval_set (y:=(z+x*y+c) % 65536) ho
   rw [dval_take hb,Nat.mul_add,Nat.mul_add,show k+(j+1)=(k+j)+1 by omega,Nat.pow_succ]
   have e2:=Nat.div_add_mod (z+x*y+c) 65536
   have e3:65536 ^ (k+j)*((z+x*y+c) % 65536)+65536 ^ (k+j)*65536*((z+x*y+c) / 65536)=65536 ^ (k+j)*z+65536 ^ (k+j)*(x*y)+65536 ^ (k+j)*c:=by
    rw [Nat.mul_assoc,← Nat.mul_add,Nat.add_comm ((z+x*y+c) % 65536),e2,Nat.mul_add,Nat.mul_add]
   have e4:65536 ^ k*(x*(65536 ^ j*y))=65536 ^ (k+j)*(x*y):=by
    rw [Nat.pow_add,Nat.mul_assoc,← Nat.mul_assoc x,Nat.mul_comm x,Nat.mul_assoc]
   omega
 · rw [List.getElem?_set_ne (by omega)]
   exact h5 i (by omega)
theorem MulO.start (a b:List Nat):MulO a b 0 (List.replicate (a.length+b.length) 0):=by
 refine ⟨by simp,fun d hd=>by rw [(List.mem_replicate.1 hd).2];omega,?_,fun i _ hi=>?_⟩
 · have:∀ n,dval (List.replicate n 0)=0:=fun n=>by induction n with
    | zero=>rfl
    | succ n ih=>rw [List.replicate_succ,dval,ih]
   rw [this];simp [dval]
 · rw [List.getElem?_replicate,if_pos (by simpa using hi)]
theorem MulO.step {a b o o2:List Nat} {x k c:Nat} (h:MulO a b k o) (ha:a[k]?=some x) (h2:MulI o b x k b.length c o2) :
 o2[k+b.length]?=some 0∧MulO a b (k+1) (o2.set (k+b.length) c):=by
 obtain ⟨h1,h3,h4,h5⟩:=h
 obtain ⟨i1,i2,i3,i4,i5⟩:=h2
 have hk:k<a.length:=(List.getElem?_eq_some_iff.1 ha).1
 have hz:o2[k+b.length]?=some 0:=by rw [i5 _ (Nat.le_refl _)];exact h5 _ (Nat.le_refl _) (by omega)
 refine ⟨hz,by simp [i1,h1],dOk_set i2 _ i3,?_,fun i hi hl=>?_⟩
 · have e:=dval_set (y:=c) hz
   rw [List.take_length] at i4
   rw [dval_take ha,Nat.add_mul,← h4,Nat.mul_assoc]
   omega
 · rw [List.getElem?_set_ne (by omega),i5 i (by omega)]
   exact h5 i (by omega) (by simp at hl;omega)
theorem MulO.done {a b o:List Nat} (h:MulO a b a.length o):dOk o∧dval o=dval a*dval b∧o.length=a.length+b.length:=by
 obtain ⟨h1,h3,h4,h5⟩:=h
 rw [List.take_length] at h4
 exact ⟨h3,h4,h1⟩
def SlN (w:World) (P:Nat→Prop) (A:Option Addr) (xs:List Value):Prop :=
 xs=[]∨∃ b off,A=some ⟨b,off,none⟩∧P b∧∀ j u,xs[j]?=some u→w.cell? ⟨b,off+j,none⟩=some u
section
variable {w w':World} {P R:Nat→Prop} {A:Option Addr} {xs:List Value}
theorem SlN.sl {B:Nat} (h:SlN w P A xs) (hP:∀ k,P k→k<B):Sl w B A xs:=by
 rcases h with h | ⟨b,off,hA,hb,hc⟩
 · exact .inl h
 · exact .inr ⟨b,off,hA,hP _ hb,hc⟩
theorem SlN.mono (h:SlN w P A xs) (hR:∀ k,P k→R k):SlN w R A xs:=by
 rcases h with h | ⟨b,off,hA,hb,hc⟩
 · exact .inl h
 · exact .inr ⟨b,off,hA,hR _ hb,hc⟩
theorem SlN.at_ (h:SlN w P A xs) (hk:∀ b,P b→b<w.heap.size→w'.heap[b]?=w.heap[b]?):SlN w' P A xs:=by
 rcases h with h | ⟨b,off,hA,hb,hc⟩
 · exact .inl h
 · by_cases hx:xs=[]
   · exact .inl hx
   · refine .inr ⟨b,off,hA,hb,fun j u hu=>?_⟩
     obtain ⟨x,xs',rfl⟩:=List.exists_cons_of_ne_nil hx
     have h0:=hc 0 x rfl
     exact (World.cell?_of_block (hk b hb (cell_lt h0))).trans (hc j u hu)
theorem SlN.below (h:SlN w P A xs) (hb:Below w.heap.size w w'):SlN w' P A xs:=h.at_ fun b _ hl=>hb.block b hl
theorem SlN.lt (h:SlN w P A xs):SlN w (fun k=>P k∧k<w.heap.size) A xs:=by
 rcases h with h | ⟨b,off,hA,hb,hc⟩
 · exact .inl h
 · by_cases hx:xs=[]
   · exact .inl hx
   · obtain ⟨x,xs',rfl⟩:=List.exists_cons_of_ne_nil hx
     exact .inr ⟨b,off,hA,⟨hb,cell_lt (hc 0 x rfl)⟩,hc⟩
theorem SlN.any (h:SlN w P A xs):Sl w w.heap.size A xs:=h.lt.sl fun _ hk=>hk.2
theorem SlN.take (h:SlN w P A xs) (k:Nat):SlN w P A (xs.take k):=by
 rcases h with h | ⟨b,off,hA,hB,hc⟩
 · exact .inl (by simp [h])
 · exact .inr ⟨b,off,hA,hB,fun j u hu=>by
    rw [List.getElem?_take] at hu
    split at hu
    · exact hc j u hu
    · cases hu⟩
end
end
end Go.Proofs.YtpnoofphfomjoaaGreatDoor
