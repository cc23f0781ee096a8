/- Num2 RefNum5 -/
import Derived.BigQuiet
import Derived.Deep.AppendLies
import Derived.Test.YtpnoofphfomjoaaGreatDoorPkM00
set_option maxRecDepth 1000000
set_option maxHeartbeats 8000000
namespace Go.Proofs.YtpnoofphfomjoaaGreatDoor
section
open Go.RowKit
def dval:List Nat→Nat
 | []=>0
 | d::l=>d+65536*dval l
def dOk (l:List Nat):Prop:=∀ d∈l,d<65536
def dCs (l:List Nat):List Value:=l.map fun (d:Nat)=>Value.int .i64 (d:Int)
def digs (n:Nat):List Nat:=if h:n=0 then [] else n % 65536::digs (n / 65536)
termination_by n
decreasing_by omega
theorem dCs_length (l:List Nat):(dCs l).length=l.length:=by simp [dCs]
theorem dCs_app (a b:List Nat):dCs (a++b)=dCs a++dCs b:=by simp [dCs]
theorem dCs_get {l:List Nat} {i d:Nat} (h:l[i]?=some d):(dCs l)[i]?=some (.int .i64 (d:Int)):=by unfold dCs;rw [List.getElem?_map,h];rfl
theorem dOk.at_ {l:List Nat} (h:dOk l) {i d:Nat} (hi:l[i]?=some d):d<65536:=h d (List.mem_of_getElem? hi)
theorem dOk.take {l:List Nat} (h:dOk l) (n:Nat):dOk (l.take n):=fun d hd=>h d (List.mem_of_mem_take hd)
theorem dOk.snoc {l:List Nat} (h:dOk l) {d:Nat} (hd:d<65536):dOk (l++[d]):=fun x hx=>by
 rcases List.mem_append.1 hx with h1 | h1
 · exact h x h1
 · rw [List.mem_singleton.1 h1];exact hd
theorem dval_app:∀ (a b:List Nat),dval (a++b)=dval a+65536 ^ a.length*dval b
 | [],b=>by simp [dval]
 | d::a,b=>by
   rw [List.cons_append,dval,dval,dval_app a b,List.length_cons,Nat.pow_succ,Nat.mul_add,Nat.add_assoc,Nat.mul_comm (65536 ^ a.length) 65536,Nat.mul_assoc]
theorem dval_snoc (a:List Nat) (d:Nat):dval (a++[d])=dval a+65536 ^ a.length*d:=by rw [dval_app];simp [dval]
theorem dval_take {l:List Nat} {i d:Nat} (h:l[i]?=some d):dval (l.take (i+1))=dval (l.take i)+65536 ^ i*d:=by
 have hi:i<l.length:=(List.getElem?_eq_some_iff.1 h).1
 rw [List.take_add_one,h,Option.toList_some,dval_snoc,List.length_take,Nat.min_eq_left (Nat.le_of_lt hi)]
theorem dval_lt:∀ {l:List Nat},dOk l→dval l<65536 ^ l.length
 | [],_=>by simp [dval]
 | d::l,h=>by
   have h1:=dval_lt (l:=l) fun x hx=>h x (List.mem_cons_of_mem _ hx)
   have h2:=h d (List.mem_cons_self ..)
   rw [dval,List.length_cons,Nat.pow_succ]
   omega
theorem dval_split {l:List Nat} (n:Nat):dval l=dval (l.take n)+65536 ^ (l.take n).length*dval (l.drop n):=by
 rw [← dval_app,List.take_append_drop]
theorem digs_zero:digs 0=[]:=by rw [digs];rfl
theorem digs_pos {n:Nat} (h:n≠0):digs n=n % 65536::digs (n / 65536):=by rw [digs,dif_neg h]
theorem dval_digs:∀ n:Nat,dval (digs n)=n:=by
 intro n
 induction n using Nat.strongRecOn with
 | _ n ih =>
   by_cases h:n=0
   · rw [h,digs_zero];rfl
   · rw [digs_pos h,dval,ih _ (by omega)];omega
theorem digs_ok:∀ n:Nat,dOk (digs n):=by
 intro n
 induction n using Nat.strongRecOn with
 | _ n ih =>
   by_cases h:n=0
   · rw [h,digs_zero];exact fun d hd=>by simp at hd
   · rw [digs_pos h]
     intro d hd
     rcases List.mem_cons.1 hd with rfl | hd
     · omega
     · exact ih _ (by omega) d hd
theorem digs_nil {n:Nat}:digs n=[] ↔ n=0:=by
 constructor
 · intro h
   have:=dval_digs n
   rw [h] at this
   exact this.symm
 · rintro rfl;exact digs_zero
def noLead (l:List Nat):Prop:=l.getLast?≠some 0
theorem noLead_digs:∀ {l:List Nat},dOk l→noLead l→l=digs (dval l)
 | [],_,_=>by simp [dval,digs_zero]
 | d::l,h,hn=>by
   have hd:=h d (List.mem_cons_self ..)
   have hl:dOk l:=fun x hx=>h x (List.mem_cons_of_mem _ hx)
   by_cases he:l=[]
   · subst he
     have h0:d≠0:=by intro e;subst e;exact hn rfl
     rw [show dval [d]=d by simp [dval],digs_pos h0,show d % 65536=d by omega,show d / 65536=0 by omega,digs_zero]
   · have hn':noLead l:=by
      unfold noLead at hn ⊢
      obtain ⟨x,l',rfl⟩:=List.exists_cons_of_ne_nil he
      rwa [List.getLast?_cons_cons] at hn
     have ih:=noLead_digs hl hn'
     have hv:dval l≠0:=by
      intro e
      rw [e,digs_zero] at ih
      exact he ih
     rw [dval,digs_pos (by omega),show (d+65536*dval l) % 65536=d by omega,show (d+65536*dval l) / 65536=dval l by omega,← ih]
theorem digs_len {n k:Nat} (h:n<65536 ^ k):(digs n).length≤k:=by
 induction k generalizing n with
 | zero=>have:n=0:=by simpa using h
         rw [this,digs_zero];simp
 | succ k ih =>
   by_cases h0:n=0
   · rw [h0,digs_zero];simp
   · rw [digs_pos h0,List.length_cons]
     have:n / 65536<65536 ^ k:=by rw [Nat.pow_succ] at h;omega
     have:=ih this
     omega
theorem digs_lt (n:Nat):n<65536 ^ (digs n).length:=by have:=dval_lt (digs_ok n);rwa [dval_digs] at this
theorem dval_drop_zero {l:List Nat} {m:Nat} (hl:l.length=m+1) (h:l[m]?=some 0):dval (l.take m)=dval l:=by
 have h1:=dval_take h
 rw [List.take_of_length_le (by omega)] at h1
 rw [h1];simp
theorem noLead_of {l:List Nat} {m d:Nat} (hl:l.length=m+1) (h:l[m]?=some d) (hd:d≠0):noLead l:=by
 unfold noLead
 rw [List.getLast?_eq_getElem?,show l.length - 1=m by omega,h]
 intro e
 cases e
 exact hd rfl
theorem dval_cmp {a b:List Nat} (ha:dOk a) {i x y:Nat} (hl:a.length=b.length) (hx:a[i]?=some x) (hy:b[i]?=some y) (htop:a.drop (i+1)=b.drop (i+1)) (h:x<y):dval a<dval b:=by
 have hia:i<a.length:=(List.getElem?_eq_some_iff.1 hx).1
 have hib:i<b.length:=(List.getElem?_eq_some_iff.1 hy).1
 have e1:=dval_split (l:=a) (i+1)
 have e2:=dval_split (l:=b) (i+1)
 rw [htop,List.length_take,Nat.min_eq_left (by omega)] at e1
 rw [List.length_take,Nat.min_eq_left (by omega)] at e2
 have t1:=dval_take hx
 have t2:=dval_take hy
 have l1:=dval_lt (ha.take i)
 rw [List.length_take,Nat.min_eq_left (by omega)] at l1
 have l2:65536 ^ i*x+65536 ^ i≤65536 ^ i*y:=by
  have:=Nat.mul_le_mul_left (65536 ^ i) (show x+1≤y from h)
  rw [Nat.mul_add,Nat.mul_one] at this
  exact this
 omega
theorem digs_len_lt {m n:Nat} (h:(digs m).length<(digs n).length):m<n:=by
 have h1:=digs_lt m
 rcases Nat.lt_or_ge m n with h2 | h2
 · exact h2
 · have h3:=digs_len (n:=n) (k:=(digs m).length) (by omega)
   omega
end
section
open Go.RowKit
def dig (l:List Nat) (k:Nat):Nat:=l[k]?.getD 0
theorem dig_lt {l:List Nat} (h:dOk l) (k:Nat):dig l k<65536:=by
 unfold dig
 cases hk:l[k]? with
 | none=>simp
 | some d=>exact h.at_ hk
theorem dval_takeD (l:List Nat) (k:Nat):dval (l.take (k+1))=dval (l.take k)+65536 ^ k*dig l k:=by
 unfold dig
 cases hk:l[k]? with
 | none =>
   have:=List.getElem?_eq_none_iff.1 hk
   rw [List.take_of_length_le (by omega),List.take_of_length_le (by omega)];simp
 | some d=>exact dval_take hk
def AddD (a b:List Nat) (k c:Nat) (o:List Nat):Prop :=
 o.length=k∧dOk o∧c≤1∧dval o+65536 ^ k*c=dval (a.take k)+dval (b.take k)∧k≤max a.length b.length+1∧(k=max a.length b.length+1→c=0)
theorem AddD.start (a b:List Nat):AddD a b 0 0 []:=⟨rfl,fun d hd=>by simp at hd,by omega,by simp [dval],by omega,fun _=>rfl⟩
theorem AddD.step {a b o:List Nat} {k c:Nat} (ha:dOk a) (hb:dOk b) (h:AddD a b k c o) (hk:k<a.length∨k<b.length∨0<c) :
 AddD a b (k+1) ((dig a k+dig b k+c) / 65536) (o++[(dig a k+dig b k+c) % 65536]):=by
 obtain ⟨h1,h2,h3,h4,h5,h6⟩:=h
 have x1:=dig_lt ha k
 have x2:=dig_lt hb k
 have hk':k≤max a.length b.length:=by
  rcases Nat.lt_or_ge k (max a.length b.length+1) with h | h
  · omega
  · have:k=max a.length b.length+1:=by omega
    have:=h6 this
    omega
 refine ⟨by simp [h1],h2.snoc (by omega),by omega,?_,by omega,fun he=>?_⟩
 · rw [dval_snoc,h1,dval_takeD,dval_takeD,Nat.pow_succ]
   have e:=Nat.div_add_mod (dig a k+dig b k+c) 65536
   have e2:65536 ^ k*((dig a k+dig b k+c) % 65536)+65536 ^ k*65536*((dig a k+dig b k+c) / 65536)=65536 ^ k*dig a k+65536 ^ k*dig b k+65536 ^ k*c:=by
    rw [Nat.mul_assoc,← Nat.mul_add,Nat.add_comm ((dig a k+dig b k+c) % 65536),e,Nat.mul_add,Nat.mul_add]
   omega
 · have ea:dig a k=0:=by unfold dig;rw [List.getElem?_eq_none (by omega)];rfl
   have eb:dig b k=0:=by unfold dig;rw [List.getElem?_eq_none (by omega)];rfl
   rw [ea,eb];omega
theorem AddD.done {a b o:List Nat} {k c:Nat} (h:AddD a b k c o) (hk:¬ (k<a.length∨k<b.length∨0<c)):dOk o∧dval o=dval a+dval b∧o.length≤max a.length b.length+1:=by
 obtain ⟨h1,h2,h3,h4,h5,h6⟩:=h
 rw [List.take_of_length_le (by omega),List.take_of_length_le (by omega),show c=0 by omega] at h4
 exact ⟨h2,by simpa using h4,by omega⟩
def SubD (a b:List Nat) (k c:Nat) (o:List Nat):Prop :=
 o.length=k∧dOk o∧c≤1∧dval o+dval (b.take k)=dval (a.take k)+65536 ^ k*c
theorem SubD.start (a b:List Nat):SubD a b 0 0 []:=⟨rfl,fun d hd=>by simp at hd,by omega,by simp [dval]⟩
theorem SubD.lend {a b o:List Nat} {k c x:Nat} (h:SubD a b k c o) (ha:dOk a) (hb:dOk b) (hx:a[k]?=some x) (hs:x<dig b k+c) :
 SubD a b (k+1) 1 (o++[x+65536 - dig b k - c]):=by
 obtain ⟨h1,h2,h3,h4⟩:=h
 have x1:=ha.at_ hx
 have x2:=dig_lt hb k
 refine ⟨by simp [h1],h2.snoc (by omega),by omega,?_⟩
 rw [dval_snoc,h1,dval_takeD,dval_take hx,Nat.pow_succ]
 have e:65536 ^ k*(x+65536 - dig b k - c)+65536 ^ k*dig b k+65536 ^ k*c=65536 ^ k*x+65536 ^ k*65536:=by
  rw [← Nat.mul_add,← Nat.mul_add,← Nat.mul_add,show x+65536 - dig b k - c+dig b k+c=x+65536 by omega]
 omega
theorem SubD.keep {a b o:List Nat} {k c x:Nat} (h:SubD a b k c o) (ha:dOk a) (hx:a[k]?=some x) (hs:dig b k+c≤x) :
 SubD a b (k+1) 0 (o++[x - dig b k - c]):=by
 obtain ⟨h1,h2,h3,h4⟩:=h
 have x1:=ha.at_ hx
 refine ⟨by simp [h1],h2.snoc (by omega),by omega,?_⟩
 rw [dval_snoc,h1,dval_takeD,dval_take hx]
 have e:65536 ^ k*(x - dig b k - c)+65536 ^ k*dig b k+65536 ^ k*c=65536 ^ k*x:=by
  rw [← Nat.mul_add,← Nat.mul_add,show x - dig b k - c+dig b k+c=x by omega]
 omega
theorem SubD.done {a b o:List Nat} {c:Nat} (h:SubD a b a.length c o) (hl:b.length≤a.length) (hv:dval b≤dval a):dOk o∧dval o=dval a - dval b∧o.length=a.length:=by
 obtain ⟨h1,h2,h3,h4⟩:=h
 rw [List.take_length,List.take_of_length_le hl] at h4
 have hlt:=dval_lt h2
 rw [h1] at hlt
 have hc:c=0:=by
  rcases Nat.lt_or_ge 0 c with h | h
  · have:c=1:=by omega
    subst this
    omega
  · omega
 subst hc
 exact ⟨h2,by omega,h1⟩
theorem dval_set {l:List Nat} {i x y:Nat} (h:l[i]?=some x):dval (l.set i y)+65536 ^ i*x=dval l+65536 ^ i*y:=by
 induction l generalizing i with
 | nil=>simp at h
 | cons d l ih =>
   cases i with
   | zero=>simp at h;subst h;simp [dval];omega
   | succ i =>
     have h':=ih (i:=i) (by simpa using h)
     rw [List.set_cons_succ,dval,dval,Nat.pow_succ]
     have e1:65536 ^ i*65536*x=65536*(65536 ^ i*x):=by rw [Nat.mul_comm (65536 ^ i) 65536,Nat.mul_assoc]
     have e2:65536 ^ i*65536*y=65536*(65536 ^ i*y):=by rw [Nat.mul_comm (65536 ^ i) 65536,Nat.mul_assoc]
     omega
theorem dOk_set {l:List Nat} (h:dOk l) (i:Nat) {y:Nat} (hy:y<65536):dOk (l.set i y):=fun d hd=>by
 rcases List.mem_or_eq_of_mem_set hd with h1 | h1
 · exact h d h1
 · omega
def zeroFrom (l:List Nat) (k:Nat):Prop:=∀ i,k≤i→i<l.length→l[i]?=some 0
def MulO (a b:List Nat) (k:Nat) (o:List Nat):Prop :=
 o.length=a.length+b.length∧dOk o∧dval o=dval (a.take k)*dval b∧zeroFrom o (k+b.length)
def MulI (o0 b:List Nat) (x k j c:Nat) (o:List Nat):Prop :=
 o.length=o0.length∧dOk o∧c<65536∧dval o+65536 ^ (k+j)*c=dval o0+65536 ^ k*(x*dval (b.take j))∧(∀ i,k+j≤i→o[i]?=o0[i]?)
theorem MulI.start {o0 b:List Nat} (x k:Nat) (h:dOk o0):MulI o0 b x k 0 0 o0:=⟨rfl,h,by omega,by simp [dval],fun _ _=>rfl⟩
theorem MulI.step {o0 b o:List Nat} {x k j c y z:Nat} (h:MulI o0 b x k j c o) (hx:x<65536) (hy:y<65536) (hb:b[j]?=some y) (ho:o[k+j]?=some z) :
 MulI o0 b x k (j+1) ((z+x*y+c) / 65536) (o.set (k+j) ((z+x*y+c) % 65536)):=by
 obtain ⟨h1,h2,h3,h4,h5⟩:=h
 have hz:=h2.at_ ho
 have hxy:x*y≤65535*65535:=Nat.mul_le_mul (by omega) (by omega)
 refine ⟨by simp [h1],dOk_set h2 _ (by omega),by omega,?_,fun i hi=>?_⟩
 · have e:=dval_set (y:=(z+x*y+c) % 65536) ho
   rw [dval_take hb,Nat.mul_add,Nat.mul_add,show k+(j+1)=(k+j)+1 by omega,Nat.pow_succ]
   have e2:=Nat.div_add_mod (z+x*y+c) 65536
   have e3:65536 ^ (k+j)*((z+x*y+c) % 65536)+65536 ^ (k+j)*65536*((z+x*y+c) / 65536)=65536 ^ (k+j)*z+65536 ^ (k+j)*(x*y)+65536 ^ (k+j)*c:=by
    rw [Nat.mul_assoc,← Nat.mul_add,Nat.add_comm ((z+x*y+c) % 65536),e2,Nat.mul_add,Nat.mul_add]
   have e4:65536 ^ k*(x*(65536 ^ j*y))=65536 ^ (k+j)*(x*y):=by
    rw [Nat.pow_add,Nat.mul_assoc,← Nat.mul_assoc x,Nat.mul_comm x,Nat.mul_assoc]
   omega
 · rw [List.getElem?_set_ne (by omega)]
   exact h5 i (by omega)
theorem MulO.start (a b:List Nat):MulO a b 0 (List.replicate (a.length+b.length) 0):=by
 refine ⟨by simp,fun d hd=>by rw [(List.mem_replicate.1 hd).2];omega,?_,fun i _ hi=>?_⟩
 · have:∀ n,dval (List.replicate n 0)=0:=fun n=>by induction n with
    | zero=>rfl
    | succ n ih=>rw [List.replicate_succ,dval,ih]
   rw [this];simp [dval]
 · rw [List.getElem?_replicate,if_pos (by simpa using hi)]
theorem MulO.step {a b o o2:List Nat} {x k c:Nat} (h:MulO a b k o) (ha:a[k]?=some x) (h2:MulI o b x k b.length c o2) :
 o2[k+b.length]?=some 0∧MulO a b (k+1) (o2.set (k+b.length) c):=by
 obtain ⟨h1,h3,h4,h5⟩:=h
 obtain ⟨i1,i2,i3,i4,i5⟩:=h2
 have hk:k<a.length:=(List.getElem?_eq_some_iff.1 ha).1
 have hz:o2[k+b.length]?=some 0:=by rw [i5 _ (Nat.le_refl _)];exact h5 _ (Nat.le_refl _) (by omega)
 refine ⟨hz,by simp [i1,h1],dOk_set i2 _ i3,?_,fun i hi hl=>?_⟩
 · have e:=dval_set (y:=c) hz
   rw [List.take_length] at i4
   rw [dval_take ha,Nat.add_mul,← h4,Nat.mul_assoc]
   omega
 · rw [List.getElem?_set_ne (by omega),i5 i (by omega)]
   exact h5 i (by omega) (by simp at hl;omega)
theorem MulO.done {a b o:List Nat} (h:MulO a b a.length o):dOk o∧dval o=dval a*dval b∧o.length=a.length+b.length:=by
 obtain ⟨h1,h3,h4,h5⟩:=h
 rw [List.take_length] at h4
 exact ⟨h3,h4,h1⟩
def SlN (w:World) (P:Nat→Prop) (A:Option Addr) (xs:List Value):Prop :=
 xs=[]∨∃ b off,A=some ⟨b,off,none⟩∧P b∧∀ j u,xs[j]?=some u→w.cell? ⟨b,off+j,none⟩=some u
section
variable {w w':World} {P R:Nat→Prop} {A:Option Addr} {xs:List Value}
theorem SlN.sl {B:Nat} (h:SlN w P A xs) (hP:∀ k,P k→k<B):Sl w B A xs:=by
 rcases h with h | ⟨b,off,hA,hb,hc⟩
 · exact .inl h
 · exact .inr ⟨b,off,hA,hP _ hb,hc⟩
theorem SlN.mono (h:SlN w P A xs) (hR:∀ k,P k→R k):SlN w R A xs:=by
 rcases h with h | ⟨b,off,hA,hb,hc⟩
 · exact .inl h
 · exact .inr ⟨b,off,hA,hR _ hb,hc⟩
theorem SlN.at_ (h:SlN w P A xs) (hk:∀ b,P b→b<w.heap.size→w'.heap[b]?=w.heap[b]?):SlN w' P A xs:=by
 rcases h with h | ⟨b,off,hA,hb,hc⟩
 · exact .inl h
 · by_cases hx:xs=[]
   · exact .inl hx
   · refine .inr ⟨b,off,hA,hb,fun j u hu=>?_⟩
     obtain ⟨x,xs',rfl⟩:=List.exists_cons_of_ne_nil hx
     have h0:=hc 0 x rfl
     exact (World.cell?_of_block (hk b hb (cell_lt h0))).trans (hc j u hu)
theorem SlN.below (h:SlN w P A xs) (hb:Below w.heap.size w w'):SlN w' P A xs:=h.at_ fun b _ hl=>hb.block b hl
theorem SlN.lt (h:SlN w P A xs):SlN w (fun k=>P k∧k<w.heap.size) A xs:=by
 rcases h with h | ⟨b,off,hA,hb,hc⟩
 · exact .inl h
 · by_cases hx:xs=[]
   · exact .inl hx
   · obtain ⟨x,xs',rfl⟩:=List.exists_cons_of_ne_nil hx
     exact .inr ⟨b,off,hA,⟨hb,cell_lt (hc 0 x rfl)⟩,hc⟩
theorem SlN.any (h:SlN w P A xs):Sl w w.heap.size A xs:=h.lt.sl fun _ hk=>hk.2
theorem SlN.take (h:SlN w P A xs) (k:Nat):SlN w P A (xs.take k):=by
 rcases h with h | ⟨b,off,hA,hB,hc⟩
 · exact .inl (by simp [h])
 · exact .inr ⟨b,off,hA,hB,fun j u hu=>by
    rw [List.getElem?_take] at hu
    split at hu
    · exact hc j u hu
    · cases hu⟩
end
theorem own_slN {w:World} {base:Nat} {e:TypeId} {size n m c:Nat} {A:Option Addr} {xs:List Value} (h:w.ownsRow base e size (.slice A n c) m xs):SlN w (fun k=>base≤k) A xs:=by
 rcases Sl.of_own h with h1 | ⟨b,off,hA,hb,hc⟩
 · exact .inl h1
 · exact .inr ⟨b,off,hA,own_base h (by rw [hA];rfl),hc⟩
theorem own_put {w:World} {base:Nat} {e:TypeId} {n g cap:Nat} {xs:List Value} (h:w.ownsRow base e 1 (.slice (some ⟨g,0,none⟩) n cap) n xs) (i:Nat) (u:Value) :
 (w.setCell ⟨g,i,none⟩ u).ownsRow base e 1 (.slice (some ⟨g,0,none⟩) n cap) n (xs.set i u):=by
 refine ⟨by rw [List.length_set];exact h.1,?_⟩
 rcases h.2 with ⟨h0,_⟩ | ⟨g',cap',cur,hv,hb,hh,hc,hm,hs,ht⟩
 · cases h0
 · cases hv
   refine .inr ⟨g,cap,cur.setIfInBounds i u,rfl,hb,?_,hc,hm,by simpa using hs,?_⟩
   · simp [World.setCell,Array.getElem?_modify,hh]
   · rw [← ht]
     simp [List.take_set]
theorem own_cell {w:World} {base:Nat} {e:TypeId} {n g cap:Nat} {xs:List Value} (h:w.ownsRow base e 1 (.slice (some ⟨g,0,none⟩) n cap) n xs) {i:Nat} {u:Value} (hi:xs[i]?=some u):w.cell? ⟨g,i,none⟩=some u∧w.frozen? ⟨g,i,none⟩=false:=by
 rcases h.2 with ⟨h0,_⟩ | ⟨g',cap',cur,hv,hb,hh,hc,hm,hs,ht⟩
 · cases h0
 · cases hv
   have hi':cur[i]?=some u:=by
    rw [← ht] at hi
    rw [List.getElem?_take] at hi
    split at hi
    · rw [← Array.getElem?_toList];exact hi
    · cases hi
   exact ⟨Blk.cell (show Blk w g e cur from hh) hi',by simp [World.frozen?,hh]⟩
end
section
open Go.RowKit
theorem dCs_take (l:List Nat) (k:Nat):dCs (l.take k)=(dCs l).take k:=by unfold dCs;rw [List.map_take]
theorem Sl.dg {w:World} {B:Nat} {A:Option Addr} {l:List Nat} (h:Sl w B A (dCs l)) {k d:Nat} (hk:l[k]?=some d) :
 ∃ b off,A=some ⟨b,off,none⟩∧b<B∧w.cell? ⟨b,off+k,none⟩=some (.int .i64 (d:Int)):=by
 have hlt:k<l.length:=(List.getElem?_eq_some_iff.1 hk).1
 obtain ⟨b,off,rfl,hB,hc⟩:=h.open_ (by rw [dCs_length];omega)
 exact ⟨b,off,rfl,hB,hc k _ (dCs_get hk)⟩
theorem digit_any (l:List Nat) (i:Nat) (A:Option Addr) (c:Nat) (w:World) (hs:Sl w w.heap.size A (dCs l)) :
 Calls Tryz.prog 217 #[.slice A l.length c,.int .i64 (i:Int)] w fun e w'=>e=.returned (.int .i64 (dig l i:Nat))∧w'=w:=by
 by_cases h:i<l.length
 · obtain ⟨d,hd⟩:∃ d,l[i]?=some d:=⟨_,List.getElem?_eq_getElem h⟩
   obtain ⟨b,off,rfl,hb,hc⟩:=hs.dg hd
   have hD:Hid (dig l i=d):=hide (by unfold dig;rw [hd];rfl)
   clear hd hs
   go_enter Tryz.func217,Tryz.ntmps217
   go_wp2
   go_ret
   exact ⟨by rw [hD.out];rfl,rfl⟩
 · have hD:Hid (dig l i=0):=hide (by unfold dig;rw [List.getElem?_eq_none (by omega)];rfl)
   clear hs
   go_enter Tryz.func217,Tryz.ntmps217
   go_wp2
   go_ret
   exact ⟨by rw [hD.out];rfl,rfl⟩
theorem trim_any (l:List Nat) (A:Option Addr) (c:Nat) (w:World) (hs:Sl w w.heap.size A (dCs l)) (hok:dOk l) (hc:l.length≤c) (hcm:c≤maxLen) :
 Calls Tryz.prog 216 #[.slice A l.length c] w fun e w'=>e=.returned (.slice A (digs (dval l)).length c)∧w'=w∧digs (dval l)=l.take (digs (dval l)).length:=by
 unfold maxLen at hcm
 have HS:=hide hs;have HOK:=hide hok
 clear hs hok
 go_enter Tryz.func216,Tryz.ntmps216
 go_wp2
 go_loopw [0] (fun u wr=>∃ k:Nat,k≤l.length∧u=.slice A k c∧dval (l.take k)=dval l∧wr=w)
  (fun u _=>match u with | .slice _ k _=>k | _=>0)
 case atStart=>exact ⟨l.length,Nat.le_refl _,rfl,by rw [List.take_length],rfl⟩
 case round =>
  obtain ⟨k,hk,rfl,hv,rfl⟩:=hrel
  have HV:=hide hv;clear hv
  by_cases h0:0<k
  · obtain ⟨d,hd⟩:∃ d,l[k - 1]?=some d:=⟨_,List.getElem?_eq_getElem (by omega)⟩
    obtain ⟨b,off,rfl,hb,hcell⟩:=HS.out.dg hd
    have HD:=hide hd;clear hd
    have hki:IntKind.i64.wrap ((k:Int) - 1)=((k - 1:Nat):Int):=by rw [IntKind.wrap_i64];omega
    by_cases hz:d=0
    · subst hz
      have hv2:Hid (dval (l.take (k - 1))=dval l):=hide (by
       rw [← HV.out]
       have h1:(l.take k)[k - 1]?=some 0:=by rw [List.getElem?_take,if_pos (by omega)];exact HD.out
       have h2:=dval_drop_zero (l:=l.take k) (m:=k - 1) (by rw [List.length_take];omega) h1
       rw [List.take_take,Nat.min_eq_left (by omega)] at h2
       exact h2)
      go_wp2
      go_roundw
      case rel=>exact ⟨k - 1,by omega,by simp,hv2.out,trivial⟩
      case measure=>simp;omega
    · have hzi:(d:Int)≠0:=by omega
      have hfin:Hid (digs (dval l)=l.take k):=hide (by
       rw [← HV.out]
       refine (noLead_digs (HOK.out.take k) (noLead_of (m:=k - 1) (by rw [List.length_take];omega) ?_ hz)).symm
       rw [List.getElem?_take,if_pos (by omega)]
       exact HD.out)
      go_wp2
      go_ret
      have h1:(digs (dval l)).length=k:=by rw [hfin.out,List.length_take];omega
      refine ⟨?_,rfl,?_⟩
      · rw [h1];rfl
      · rw [h1];exact hfin.out
  · obtain rfl:k=0:=by omega
    go_wp2
    go_ret
    have h0':=HV.out
    rw [List.take_zero] at h0'
    have h1:digs (dval l)=[]:=by rw [← h0'];exact digs_zero
    rw [h1]
    exact ⟨rfl,rfl,rfl⟩
theorem results_num {fn:Func} {tmps:Array Value} {w:World} {g k:Nat} {v0 v1:Value} (h:fn.results=#[.cell k 197])
 (hp:tmps.getD k undef=.pointer (some ⟨g,0,none⟩)) (hb:Blk w g 197 #[v0,v1]) :
 (results fn tmps).run Tryz.prog w=.ok (.agg #[v0,v1]) w:=by
 have c0:=hb.cell (i:=0) rfl
 have c1:=hb.cell (i:=1) rfl
 have hp':tmps[k]?.getD undef=.pointer (some ⟨g,0,none⟩):=by rw [← hp];simp
 simp [results,h,hp',go_sem,c0,c1]
def numV (n:Int) (A:Option Addr) (c:Nat):Value:=.agg #[.int .i64 n.sign,.slice A (digs n.natAbs).length c]
def NumAt (w:World) (P:Nat→Prop) (n:Int) (A:Option Addr) (c:Nat):Prop:=SlN w P A (dCs (digs n.natAbs))∧(digs n.natAbs).length≤c∧c≤maxLen
def Up (w:World) (P:Nat→Prop):Prop:=∀ k,w.heap.size≤k→P k
theorem Up.of {w w':World} {P:Nat→Prop} (h:Up w P) (hs:w.heap.size≤w'.heap.size):Up w' P:=fun k hk=>h k (by omega)
theorem Up.ne {w w':World} {P:Nat→Prop} (h:Up w P) {g:Nat} (hg:w.heap.size≤g) (hs:g<w'.heap.size):Up w' fun k=>P k∧k≠g:=fun k hk=>⟨h k (by omega),by omega⟩
def GaveR (P:Nat→Prop) (n:Int) (w:World) (e:Ending) (w':World):Prop:=∃ A c,e=.returned (numV n A c)∧NumAt w' P n A c∧Below w.heap.size w w'
section
variable {w w':World} {P R:Nat→Prop} {n:Int} {A:Option Addr} {c:Nat}
theorem NumAt.step (h:NumAt w P n A c) (hb:Below w.heap.size w w'):NumAt w' P n A c:=⟨h.1.below hb,h.2⟩
theorem NumAt.at_ (h:NumAt w P n A c) (hk:∀ b,P b→b<w.heap.size→w'.heap[b]?=w.heap[b]?):NumAt w' P n A c:=⟨h.1.at_ hk,h.2⟩
theorem NumAt.mono (h:NumAt w P n A c) (hR:∀ k,P k→R k):NumAt w R n A c:=⟨h.1.mono hR,h.2⟩
theorem NumAt.ne (h:NumAt w P n A c) (hb:Below w.heap.size w w') {g:Nat} (hg:w.heap.size≤g):NumAt w' (fun k=>P k∧k≠g) n A c :=
 ⟨(h.1.lt.mono fun k hk=>⟨hk.1,by omega⟩).below hb,h.2⟩
theorem NumAt.set {g i:Nat} (h:NumAt w (fun k=>P k∧k≠g) n A c) (u:Value):NumAt (w.setCell ⟨g,i,none⟩ u) (fun k=>P k∧k≠g) n A c :=
 h.at_ fun b hb _=>Below.heap_setCell _ _ _ _ (by exact hb.2)
end
theorem make16_any (P:Nat→Prop) (s:Int) (l:List Nat) (A:Option Addr) (c:Nat) (w:World) (hs:SlN w P A (dCs l)) (hok:dOk l) (hc:l.length≤c) (hcm:c≤maxLen) (hsg:dval l≠0→s=1∨s=-1) :
 Calls Tryz.prog 195 #[.int .i64 s,.slice A l.length c] w (GaveR P (s*dval l) w):=by
 obtain ⟨w0,hw0⟩:∃ w0,w0=w.alloc (.cells #[.int .i64 0,.slice none 0 0] 197):=⟨_,rfl⟩
 have hb0:Below w.heap.size w w0:=by rw [hw0];exact bA
 have B0:Blk w0 w.heap.size 197 #[.int .i64 0,.slice none 0 0]:=by rw [hw0];exact Blk.new _ _ _
 have hs0:=(hs.below hb0).any
 have H:=hide (trim_any l A c w0 hs0 hok hc hcm)
 have hsw:=hide hs
 obtain ⟨n,hn⟩:∃ n,n=dval l:=⟨_,rfl⟩
 have HN:=hide hn
 rw [← hn] at hsg H
 clear hs hok hs0 hn
 go_enter Tryz.func195,Tryz.ntmps195
 go_wp2_with fail
 rw [← hw0]
 refine H.out.mono ?_
 rintro e w1 ⟨rfl,rfl,hd⟩
 have HD:=hide hd
 have hlt:=B0.lt
 have b0:=B0.cell (i:=0) rfl
 have b1:=B0.cell (i:=1) rfl
 have f0:=B0.frozen 0
 have f1:=B0.frozen 1
 obtain ⟨m,hm⟩:∃ m,m=(digs n).length:=⟨_,rfl⟩
 rw [← hm]
 have HM:=hide hm
 clear hd hm hw0
 by_cases h0:n=0
 · have hm0:m=0:=by rw [HM.out,h0,digs_zero];rfl
   subst hm0
   go_wp2
   refine bodyPost_ret (results_num rfl rfl ((B0.set 0 _).set 1 _)) rfl ?_
   refine ⟨none,0,?_,⟨.inl ?_,?_,by unfold maxLen;omega⟩,?_⟩
   · rw [← HN.out,h0]
     unfold numV
     rw [show s*((0:Nat):Int)=0 by simp,Int.natAbs_zero,digs_zero]
     rfl
   · rw [← HN.out,h0,show s*((0:Nat):Int)=0 by simp,Int.natAbs_zero,digs_zero];rfl
   · rw [← HN.out,h0,show s*((0:Nat):Int)=0 by simp,Int.natAbs_zero,digs_zero];exact Nat.le_refl _
   · exact (hb0.setCell (by dsimp only;omega) _).setCell (by dsimp only;omega) _
 · have hmp:m≠0:=by
    rw [HM.out]
    intro h
    exact h0 (digs_nil.1 (List.eq_nil_of_length_eq_zero h))
   have hmi:(m:Int)≠0:=by omega
   have hml:Hid (m≤l.length):=hide (by
    have h1:=congrArg List.length HD.out
    rw [List.length_take,← HM.out] at h1
    omega)
   have hq:=hsg h0
   have hab:Hid ((s*(n:Int)).natAbs=n):=hide (by rcases hq with rfl | rfl <;> omega)
   have hsn:Hid ((s*(n:Int)).sign=s):=hide (by
    have hp:0<(n:Int):=by omega
    rcases hq with rfl | rfl
    · rw [Int.one_mul];exact Int.sign_eq_one_of_pos hp
    · rw [Int.neg_one_mul];exact Int.sign_eq_neg_one_of_neg (by omega))
   clear hq hsg
   go_wp2
   have E:=(B0.set 0 (.int .i64 s)).set 1 (.slice A m c)
   refine bodyPost_ret (results_num rfl rfl E) rfl ?_
   refine ⟨A,c,?_,⟨?_,?_,hcm⟩,?_⟩
   · rw [← HN.out]
     unfold numV
     rw [hsn.out,hab.out,← HM.out]
   · rw [← HN.out,hab.out,HD.out,dCs_take]
     exact (hsw.out.take (digs n).length).below ((hb0.setCell (by dsimp only;omega) _).setCell (by dsimp only;omega) _)
   · rw [← HN.out,hab.out,← HM.out];have:=hml.out;omega
   · exact (hb0.setCell (by dsimp only;omega) _).setCell (by dsimp only;omega) _
end
section
open Go.RowKit
def cmpN (m n:Nat):Int:=if m<n then -1 else if m=n then 0 else 1
theorem cmpN_ge (m n:Nat):(0≤cmpN m n)=(n≤m):=by
 unfold cmpN
 apply propext
 split
 · constructor
   · intro h;omega
   · intro h;omega
 · split
   · constructor
     · intro h;omega
     · intro h;omega
   · constructor
     · intro h;omega
     · intro h;omega
theorem drop_step {l1 l2:List Nat} {j x:Nat} (h:l1.drop (j+1)=l2.drop (j+1)) (h1:l1[j]?=some x) (h2:l2[j]?=some x):l1.drop j=l2.drop j:=by
 have e1:j<l1.length:=(List.getElem?_eq_some_iff.1 h1).1
 have e2:j<l2.length:=(List.getElem?_eq_some_iff.1 h2).1
 rw [List.drop_eq_getElem_cons e1,List.drop_eq_getElem_cons e2,h,(List.getElem?_eq_some_iff.1 h1).2,(List.getElem?_eq_some_iff.1 h2).2]
theorem compare_any (m n:Nat) (A B:Option Addr) (c d:Nat) (w:World) (hA:Sl w w.heap.size A (dCs (digs m))) (hB:Sl w w.heap.size B (dCs (digs n))) (hm:(digs m).length≤1000) :
 Calls Tryz.prog 198 #[.slice A (digs m).length c,.slice B (digs n).length d] w fun e w'=>e=.returned (.int .i64 (cmpN m n))∧Below w.heap.size w w':=by
 have okm:=digs_ok m;have okn:=digs_ok n
 have vm:=dval_digs m;have vn:=dval_digs n
 have hlt:=digs_len_lt (m:=m) (n:=n);have hgt:=digs_len_lt (m:=n) (n:=m)
 generalize digs m=l1 at *
 generalize digs n=l2 at *
 have HA:=hide hA;have HB:=hide hB;have OKM:=hide okm;have OKN:=hide okn;have VM:=hide vm;have VN:=hide vn
 clear hA hB okm okn vm vn
 by_cases hl:l1.length=l2.length
 · have hli:((l1.length:Nat):Int)=((l2.length:Nat):Int):=by omega
   clear hlt hgt
   go_enter Tryz.func198,Tryz.ntmps198
   go_wp2
   have hHL:=hide hl
   go_loopw [5] (fun i wr=>∃ j:Nat,j≤l2.length∧i=.int .i64 ((j:Int) - 1)∧Hid (l1.drop j=l2.drop j)∧Below w.heap.size w wr)
    (fun i _=>(intOf i+1).toNat)
   case atStart=>exact ⟨l2.length,Nat.le_refl _,by go_num,hide (by rw [List.drop_of_length_le (by omega),List.drop_of_length_le (by omega)]),Below.refl _ _⟩
   case round =>
    obtain ⟨j,hj,rfl,HD,hbr⟩:=hrel
    by_cases h0:j=0
    · subst h0
      have hmn:Hid (cmpN m n=0):=hide (by
       have h1:=HD.out
       rw [List.drop_zero,List.drop_zero] at h1
       have h2:=VM.out
       rw [h1,VN.out] at h2
       unfold cmpN
       rw [if_neg (by omega),if_pos h2.symm])
      go_wp2
      go_ret
      exact ⟨by rw [hmn.out];rfl,hbr⟩
    · obtain ⟨x,hx⟩:∃ x,l1[j - 1]?=some x:=⟨_,List.getElem?_eq_getElem (by have:=hHL.out;omega)⟩
      obtain ⟨y,hy⟩:∃ y,l2[j - 1]?=some y:=⟨_,List.getElem?_eq_getElem (by omega)⟩
      obtain ⟨b,off,rfl,hb,hc1⟩:=(HA.out.below hbr).dg hx
      obtain ⟨b',off',rfl,hb',hc2⟩:=(HB.out.below hbr).dg hy
      have HX:=hide hx;have HY:=hide hy
      have hjj:(j:Int) - 1=((j - 1:Nat):Int):=by omega
      obtain ⟨i,hi⟩:∃ i,i=j - 1:=⟨_,rfl⟩
      rw [← hi] at hjj hc1 hc2 HX HY
      have HI:=hide hi
      have hil:i<l1.length:=by have:=hHL.out;omega
      have hil2:i<l2.length:=by omega
      have hiw:IntKind.i64.wrap ((i:Int) - 1)=(i:Int) - 1:=by rw [IntKind.wrap_i64];omega
      rw [hjj]
      clear hx hy hjj hi
      by_cases hxy:x=y
      · subst hxy
        go_wp2
        go_quiet (fail)
        go_wp2
        go_roundw
        case rel =>
         refine ⟨i,by omega,by go_num,hide (drop_step ?_ HX.out HY.out),bl_drewN hbr _⟩
         rw [show i+1=j by have:=HI.out;omega]
         exact HD.out
        case measure=>simp [intOf] <;> (have:=HI.out;omega)
      · have hxyi:(x:Int)≠(y:Int):=by omega
        have htop:Hid (l1.drop (i+1)=l2.drop (i+1)):=hide (by rw [show i+1=j by have:=HI.out;omega];exact HD.out)
        by_cases hlt:x<y
        · have hlti:(x:Int)<(y:Int):=by omega
          have hres:Hid (cmpN m n=-1):=hide (by
           have h1:=dval_cmp OKM.out hHL.out HX.out HY.out htop.out hlt
           rw [VM.out,VN.out] at h1
           unfold cmpN
           rw [if_pos h1])
          clear htop HX HY HI
          go_wp2
          go_quiet (fail)
          go_wp2
          go_quiet (fail)
          go_wp2
          go_ret
          exact ⟨by rw [hres.out];rfl,bl_drewN (bl_drewN hbr _) _⟩
        · have hlti:¬ (x:Int)<(y:Int):=by omega
          have hres:Hid (cmpN m n=1):=hide (by
           have h1:=dval_cmp OKN.out hHL.out.symm HY.out HX.out htop.out.symm (by omega)
           rw [VM.out,VN.out] at h1
           unfold cmpN
           rw [if_neg (by omega),if_neg (by omega)])
          clear htop HX HY HI
          go_wp2
          go_quiet (fail)
          go_wp2
          go_quiet (fail)
          go_wp2
          go_ret
          exact ⟨by rw [hres.out];rfl,bl_drewN (bl_drewN hbr _) _⟩
 · have hli:((l1.length:Nat):Int)≠((l2.length:Nat):Int):=by omega
   by_cases hll:l1.length<l2.length
   · have h1:=hlt hll
     have hlli:((l1.length:Nat):Int)<((l2.length:Nat):Int):=by omega
     have hres:Hid (cmpN m n=-1):=hide (by unfold cmpN;rw [if_pos h1])
     clear hlt hgt h1
     go_enter Tryz.func198,Tryz.ntmps198
     go_wp2
     go_ret
     exact ⟨by rw [hres.out];rfl,Below.refl _ _⟩
   · have h1:=hgt (by omega)
     have hlli:¬ ((l1.length:Nat):Int)<((l2.length:Nat):Int):=by omega
     have hres:Hid (cmpN m n=1):=hide (by unfold cmpN;rw [if_neg (by omega),if_neg (by omega)])
     clear hlt hgt h1
     go_enter Tryz.func198,Tryz.ntmps198
     go_wp2
     go_ret
     exact ⟨by rw [hres.out];rfl,Below.refl _ _⟩
theorem int_info:(Tryz.prog.info? 3).map (fun i=>(i.zero,i.size,i.bytes))=some (some (.int .i64 0),1,8):=by kernel_rfl
def GaveD (l:List Nat) (w:World) (e:Ending) (w':World):Prop:=∃ A c,e=.returned (.slice A l.length c)∧l.length≤c∧c≤maxLen∧SlN w' (fun k=>w.heap.size≤k) A (dCs l)∧Below w.heap.size w w'
theorem own_slice' {w:World} {base:Nat} {e:TypeId} {size n:Nat} {v:Value} {xs:List Value} (h:w.ownsRow base e size v n xs):∃ A cap,v=.slice A n cap∧n≤cap∧cap≤maxLen:=by
 rcases h.2 with ⟨rfl,rfl⟩ | ⟨g',cap,cur,rfl,hb,hh,hc,hm,_⟩
 · exact ⟨none,0,rfl,Nat.le_refl _,by unfold maxLen;omega⟩
 · exact ⟨_,cap,rfl,hc,hm⟩
theorem addD_any (l1 l2:List Nat) (A B:Option Addr) (c d:Nat) (w:World) (hA:Sl w w.heap.size A (dCs l1)) (hB:Sl w w.heap.size B (dCs l2)) (hm:l1.length≤1000) (hn:l2.length≤1000) (ok1:dOk l1) (ok2:dOk l2) :
 Calls Tryz.prog 197 #[.slice A l1.length c,.slice B l2.length d] w fun e w'=>∃ o,GaveD o w e w'∧dOk o∧dval o=dval l1+dval l2∧o.length≤max l1.length l2.length+1:=by
 have HA:=hide hA;have HB:=hide hB;have OK1:=hide ok1;have OK2:=hide ok2
 clear hA hB ok1 ok2
 obtain ⟨i0,hi,hz0,hz1,hz2⟩:=info_parts int_info
 go_enter Tryz.func197,Tryz.ntmps197
 go_wp2
 go_loopw [5,6,7] (fun u ca i wr=>∃ (k cy:Nat) (o:List Nat),k≤1001∧cy≤1∧i=.int .i64 k∧ca=.int .i64 cy∧Hid (AddD l1 l2 k cy o)∧Below w.heap.size w wr∧wr.ownsRow w.heap.size 3 1 u k (dCs o))
  (fun _ ca i _=>(max l1.length l2.length+1) - (intOf i).toNat)
 case atStart=>exact ⟨0,0,[],by omega,by omega,rfl,rfl,hide (AddD.start _ _),Below.refl _ _,World.ownsRow_nil _ _ _ _⟩
 case round =>
  obtain ⟨k,cy,o,hk,hcy,rfl,rfl,HD,hbr,hown⟩:=hrel
  have hG:(k<l1.length∨(¬ k<l1.length∧k<l2.length)∨(¬ k<l1.length∧¬ k<l2.length∧0<cy))∨(¬ k<l1.length∧¬ k<l2.length∧¬ 0<cy):=by omega
  rcases hG with hG | ⟨h1,h2,h3⟩
  · have hN:=HD.out.step OK1.out OK2.out (by omega)
    have hd1:=digit_any l1 k A c wr ((HA.out.below hbr).more hbr.size)
    have hd2:=digit_any l2 k B d wr ((HB.out.below hbr).more hbr.size)
    have hx:=dig_lt OK1.out k
    have hy:=dig_lt OK2.out k
    generalize dig l1 k=x at *
    generalize dig l2 k=y at *
    obtain ⟨r,hr⟩:∃ r,r=(x+y+cy) % 65536:=⟨_,rfl⟩
    obtain ⟨q,hq⟩:∃ q,q=(x+y+cy) / 65536:=⟨_,rfl⟩
    rw [← hr,← hq] at hN
    have hmod:((x:Int)+(y:Int)+(cy:Int)).tmod 65536=(r:Int):=by rw [Int.tmod_eq_emod_of_nonneg (by omega)];omega
    have hdiv:((x:Int)+(y:Int)+(cy:Int)).tdiv 65536=(q:Int):=by rw [Int.tdiv_eq_ediv_of_nonneg (by omega)];omega
    have hkk:=hN.2.2.2.2.1
    have hq1:=hN.2.2.1
    have HN:=hide hN;have HD1:=hide hd1;have HD2:=hide hd2
    clear hN hd1 hd2 hr hq HD
    rcases hG with h1 | ⟨h1,h2⟩ | ⟨h1,h2,h3⟩
    all_goals
     go_wp2_with fail
     refine HD1.out.mono ?_
     rintro e w1 ⟨rfl,rfl⟩
     go_wp2_with fail
     refine HD2.out.mono ?_
     rintro e w2 ⟨rfl,rfl⟩
     go_wp2_with (at_builtin;refine wpList_append_lies _ rfl (.tmp 34) (.tmp 37) 195 rfl w.heap.size 3 i0 (.int .i64 0) 1 8 Tryz.underlying195 hi hz0 hz1 hz2 rfl (by decide) _ k _ rfl (own_step hown (bA)) ⟨w2.heap.size,0,none⟩ 1 1 [.int .i64 (r:Int)] rfl rfl (blk_cells (Blk.new _ _ _)) (by simp [Value.oneCell']) (by omega) (by unfold maxLen;omega) (by omega) (by have:=hbr.size;simp;omega) (w2.heap.size+1) (by simp) ?_)
     intro g' cap w8 hown8 hgrow hat hlt8
     have hb8:Below w.heap.size w w8:=(bl_alloc hbr _).grown hgrow (by have:=hbr.size;simp;omega) (fun j hj=>own_base hown hj)
     have HO8:=hide hown8;have HB8:=hide hb8
     clear hown8 hb8 hgrow hat hlt8
     go_wp2
     go_roundw
     case rel =>
      refine ⟨k+1,q,o++[r],by omega,by omega,by go_num,rfl,HN,HB8.out,?_⟩
      rw [dCs_app]
      exact HO8.out
     case measure=>simp [intOf];omega
  · go_wp2
    obtain ⟨e1,e2,e3⟩:=HD.out.done (by omega)
    obtain ⟨A',c',rfl,hc',hcm'⟩:=own_slice' hown
    have hol:=HD.out.1
    go_ret
    exact ⟨o,⟨A',c',by rw [hol];rfl,by omega,hcm',own_slN hown,hbr⟩,e1,e2,e3⟩
end
section
open Go.RowKit
theorem subD_any (l1 l2:List Nat) (A B:Option Addr) (c d:Nat) (w:World) (hA:Sl w w.heap.size A (dCs l1)) (hB:Sl w w.heap.size B (dCs l2)) (hm:l1.length≤1000) (hl:l2.length≤l1.length) (ok1:dOk l1) (ok2:dOk l2) (hv:dval l2≤dval l1) :
 Calls Tryz.prog 199 #[.slice A l1.length c,.slice B l2.length d] w fun e w'=>∃ o,GaveD o w e w'∧dOk o∧dval o=dval l1 - dval l2∧o.length=l1.length:=by
 have HA:=hide hA;have HB:=hide hB;have OK1:=hide ok1;have OK2:=hide ok2;have HV:=hide hv
 clear hA hB ok1 ok2 hv
 obtain ⟨i0,hi,hz0,hz1,hz2⟩:=info_parts int_info
 go_enter Tryz.func199,Tryz.ntmps199
 go_wp2
 go_loopw [5,6,7] (fun u ca i wr=>∃ (k cy:Nat) (o:List Nat),k≤l1.length∧cy≤1∧i=.int .i64 k∧ca=.int .i64 cy∧Hid (SubD l1 l2 k cy o)∧Below w.heap.size w wr∧wr.ownsRow w.heap.size 3 1 u k (dCs o))
  (fun _ ca i _=>l1.length - (intOf i).toNat)
 case atStart=>exact ⟨0,0,[],by omega,by omega,rfl,rfl,hide (SubD.start _ _),Below.refl _ _,World.ownsRow_nil _ _ _ _⟩
 case round =>
  obtain ⟨k,cy,o,hk,hcy,rfl,rfl,HD,hbr,hown⟩:=hrel
  by_cases h1:k<l1.length
  · obtain ⟨x,hx⟩:∃ x,l1[k]?=some x:=⟨_,List.getElem?_eq_getElem h1⟩
    have hd2:∀ n,Calls Tryz.prog 217 #[.slice B l2.length d,.int .i64 (k:Int)] (wr.drewN n) fun e w'=>e=.returned (.int .i64 (dig l2 k:Nat))∧w'=wr.drewN n:=fun n=>digit_any l2 k B d (wr.drewN n) ((HB.out.below (bl_drewN hbr n)).more hbr.size)
    have hx6:=OK1.out.at_ hx
    have hy:=dig_lt OK2.out k
    have hN1:=fun h=>HD.out.lend OK1.out OK2.out hx h
    have hN2:=fun h=>HD.out.keep OK1.out hx h
    obtain ⟨b,off,rfl,hb,hc1⟩:=(HA.out.below hbr).dg hx
    generalize dig l2 k=y at *
    have HD2:=hide hd2
    clear hd2 HD hx
    by_cases hs:x<y+cy
    · obtain ⟨r,hr⟩:∃ r,r=x+65536 - y - cy:=⟨_,rfl⟩
      have hN:=hN1 hs
      rw [← hr] at hN
      have HN:=hide hN
      have hsum:(x:Int) - (y:Int) - (cy:Int)+65536=(r:Int):=by omega
      have hneg:(x:Int) - (y:Int) - (cy:Int)<0:=by omega
      clear hN1 hN2 hN hr
      go_wp2
      go_quiet ((go_at_call 217;exact Calls.quiet_of_same (HD2.out _)))
      go_wp2_with (at_builtin;refine wpList_append_lies _ rfl (.tmp 29) (.tmp 31) 195 rfl w.heap.size 3 i0 (.int .i64 0) 1 8 Tryz.underlying195 hi hz0 hz1 hz2 rfl (by decide) _ k _ rfl (own_step hown (bl_alloc (bl_drewN (Below.refl _ _) _) _)) ⟨wr.heap.size,0,none⟩ 1 1 [.int .i64 (r:Int)] rfl rfl (blk_cells (Blk.new _ _ _)) (by simp [Value.oneCell']) (by omega) (by unfold maxLen;omega) (by omega) (by have:=hbr.size;simp;omega) (wr.heap.size+1) (by simp) ?_)
      intro g' cap w8 hown8 hgrow hat hlt8
      have hb8:Below w.heap.size w w8:=(bl_alloc (bl_drewN hbr _) _).grown hgrow (by have:=hbr.size;simp;omega) (fun j hj=>own_base hown hj)
      have HO8:=hide hown8;have HB8:=hide hb8
      clear hown8 hb8 hgrow hat hlt8
      go_wp2
      go_roundw
      case rel =>
       refine ⟨k+1,1,o++[r],by omega,by omega,by go_num,rfl,HN,HB8.out,?_⟩
       rw [dCs_app]
       exact HO8.out
      case measure=>simp [intOf];omega
    · obtain ⟨r,hr⟩:∃ r,r=x - y - cy:=⟨_,rfl⟩
      have hN:=hN2 (by omega)
      rw [← hr] at hN
      have HN:=hide hN
      have hsum:(x:Int) - (y:Int) - (cy:Int)=(r:Int):=by omega
      have hneg:¬ (r:Int)<0:=by omega
      clear hN1 hN2 hN hr
      go_wp2
      go_quiet ((go_at_call 217;exact Calls.quiet_of_same (HD2.out _)))
      go_wp2_with (at_builtin;refine wpList_append_lies _ rfl (.tmp 29) (.tmp 31) 195 rfl w.heap.size 3 i0 (.int .i64 0) 1 8 Tryz.underlying195 hi hz0 hz1 hz2 rfl (by decide) _ k _ rfl (own_step hown (bl_alloc (bl_drewN (Below.refl _ _) _) _)) ⟨wr.heap.size,0,none⟩ 1 1 [.int .i64 (r:Int)] rfl rfl (blk_cells (Blk.new _ _ _)) (by simp [Value.oneCell']) (by omega) (by unfold maxLen;omega) (by omega) (by have:=hbr.size;simp;omega) (wr.heap.size+1) (by simp) ?_)
      intro g' cap w8 hown8 hgrow hat hlt8
      have hb8:Below w.heap.size w w8:=(bl_alloc (bl_drewN hbr _) _).grown hgrow (by have:=hbr.size;simp;omega) (fun j hj=>own_base hown hj)
      have HO8:=hide hown8;have HB8:=hide hb8
      clear hown8 hb8 hgrow hat hlt8
      go_wp2
      go_roundw
      case rel =>
       refine ⟨k+1,0,o++[r],by omega,by omega,by go_num,rfl,HN,HB8.out,?_⟩
       rw [dCs_app]
       exact HO8.out
      case measure=>simp [intOf];omega
  · obtain rfl:k=l1.length:=by omega
    go_wp2
    obtain ⟨e1,e2,e3⟩:=HD.out.done hl HV.out
    obtain ⟨A',c',rfl,hc',hcm'⟩:=own_slice' hown
    go_ret
    exact ⟨o,⟨A',c',by rw [e3];rfl,by omega,hcm',own_slN hown,hbr⟩,e1,e2,e3⟩
end
section
open Go.RowKit
theorem gave_set {P:Nat→Prop} {n:Int} {w w4:World} {g:Nat} {A:Option Addr} {c:Nat} {u v:Value} (hb:Below w.heap.size w w4) (hg:w.heap.size≤g) (hn:NumAt w4 (fun k=>P k∧k≠g) n A c) :
 GaveR P n w (.returned (numV n A c)) ((w4.setCell ⟨g,0,none⟩ u).setCell ⟨g,1,none⟩ v) :=
 ⟨A,c,rfl,((hn.set u).set v).mono fun _ hk=>hk.1,(hb.setCell (by exact hg) _).setCell (by exact hg) _⟩
def IntD (m k y:Nat) (o:List Nat):Prop:=o.length=k∧dOk o∧k≤4∧y<65536 ^ (4 - k)∧dval o+65536 ^ k*y=m
theorem IntD.start {m:Nat} (h:m<18446744073709551616):IntD m 0 m []:=⟨rfl,fun d hd=>by simp at hd,by omega,by simpa using h,by simp [dval]⟩
theorem IntD.step {m k y:Nat} {o:List Nat} (h:IntD m k y o) (hy:0<y):k<4∧IntD m (k+1) (y / 65536) (o++[y % 65536]):=by
 obtain ⟨h1,h2,h3,h4,h5⟩:=h
 have hk:k<4:=by
  rcases Nat.lt_or_ge k 4 with h | h
  · exact h
  · rw [show 4 - k=0 by omega,Nat.pow_zero] at h4;omega
 refine ⟨hk,by simp [h1],h2.snoc (by omega),by omega,?_,?_⟩
 · rw [show 4 - k=(4 - (k+1))+1 by omega,Nat.pow_succ] at h4
   omega
 · rw [dval_snoc,h1,Nat.pow_succ,Nat.mul_assoc]
   have e:65536 ^ k*(y % 65536)+65536 ^ k*(65536*(y / 65536))=65536 ^ k*y:=by
    rw [← Nat.mul_add,Nat.mod_add_div]
   omega
theorem IntD.done {m k:Nat} {o:List Nat} (h:IntD m k 0 o):dOk o∧dval o=m:=⟨h.2.1,by simpa using h.2.2.2.2⟩
theorem int_any (P:Nat→Prop) (x:Int) (hx:-9223372036854775808≤x∧x≤9223372036854775807) (w:World) (hP:Up w P) :
 Calls Tryz.prog 196 #[.int .i64 x] w (GaveR P x w):=by
 obtain ⟨m,hm⟩:∃ m,m=x.natAbs:=⟨_,rfl⟩
 obtain ⟨w0,hw0⟩:∃ w0,w0=w.alloc (.cells #[.int .i64 0,.slice none 0 0] 197):=⟨_,rfl⟩
 have hb0:Below w.heap.size w w0:=by rw [hw0];exact bA
 have B0:Blk w0 w.heap.size 197 #[.int .i64 0,.slice none 0 0]:=by rw [hw0];exact Blk.new _ _ _
 have hsz:w0.heap.size=w.heap.size+1:=by rw [hw0];simp
 have HS:=hide (IntD.start (m:=m) (by omega))
 have HP:=hide hP
 obtain ⟨i0,hi,hz0,hz1,hz2⟩:=info_parts int_info
 have HB0:=hide hb0;have HBB:=hide B0;have HSZ:=hide hsz
 clear hP hb0 B0 hsz
 by_cases hn:x<0
 · obtain ⟨u0,hu0⟩:∃ u0:Nat,(u0:Int)=18446744073709551616+x:=⟨(18446744073709551616+x).toNat,by omega⟩
   have hu:IntKind.u64.wrap x=(u0:Int):=by simp only [IntKind.wrap_u64];omega
   have hnu:IntKind.u64.wrap (-(u0:Int))=(m:Int):=by simp only [IntKind.wrap_u64];omega
   have HX:Hid ((-1:Int)*(m:Int)=x):=hide (by omega)
   have hs:(-1:Int)=1∨(-1:Int)=-1:=.inr rfl
   clear hu0 hm hx
   go_enter Tryz.func196,Tryz.ntmps196
   go_wp2
   rw [← hw0]
   clear hw0
   go_loopw [3,5] (fun u d wr=>∃ (k y:Nat) (o:List Nat),u=.int .u64 y∧Hid (IntD m k y o)∧Below w0.heap.size w0 wr∧wr.ownsRow w0.heap.size 3 1 d k (dCs o))
    (fun u _ _=>(intOf u).toNat)
   case atStart=>exact ⟨0,m,[],rfl,HS,Below.refl _ _,World.ownsRow_nil _ _ _ _⟩
   case round =>
    obtain ⟨k,y,o,rfl,HD,hbr,hown⟩:=hrel
    by_cases hy:0<y
    · obtain ⟨hk,hN⟩:=HD.out.step hy
      obtain ⟨r,hr⟩:∃ r,r=y % 65536:=⟨_,rfl⟩
      obtain ⟨q,hq⟩:∃ q,q=y / 65536:=⟨_,rfl⟩
      rw [← hr,← hq] at hN
      have hmod:(y:Int).tmod 65536=(r:Int):=by rw [Int.tmod_eq_emod_of_nonneg (by omega)];omega
      have hdiv:(y:Int).tdiv 65536=(q:Int):=by rw [Int.tdiv_eq_ediv_of_nonneg (by omega)];omega
      have hwr:IntKind.i64.wrap (r:Int)=(r:Int):=by rw [IntKind.wrap_i64];omega
      have hqy:Hid (q<y):=hide (by omega)
      have hwq:Hid (IntKind.u64.wrap (q:Int)=(q:Int)):=hide (by
       have h1:=HD.out.2.2.2.1
       have h2:65536 ^ (4 - k)≤65536 ^ 4:=Nat.pow_le_pow_right (by omega) (by omega)
       simp only [IntKind.wrap_u64]
       omega)
      have HN:=hide hN
      clear hN hr hq HD
      go_wp2_with (at_builtin;refine wpList_append_lies _ rfl (.tmp 14) (.tmp 18) 195 rfl w0.heap.size 3 i0 (.int .i64 0) 1 8 Tryz.underlying195 hi hz0 hz1 hz2 rfl (by decide) _ k _ rfl (own_step hown (bA)) ⟨wr.heap.size,0,none⟩ 1 1 [.int .i64 (r:Int)] rfl rfl (blk_cells (Blk.new _ _ _)) (by simp [Value.oneCell']) (by omega) (by unfold maxLen;omega) (by omega) (by have:=hbr.size;simp;omega) (wr.heap.size+1) (by simp) ?_)
      intro g' cap w8 hown8 hgrow hat hlt8
      have hb8:Below w0.heap.size w0 w8:=(bl_alloc hbr _).grown hgrow (by have:=hbr.size;simp;omega) (fun j hj=>own_base hown hj)
      have HO8:=hide hown8;have HB8:=hide hb8
      clear hown8 hb8 hgrow hat hlt8
      go_wp2
      go_roundw
      case rel =>
       refine ⟨k+1,q,o++[r],by rw [hwq.out],HN,HB8.out,?_⟩
       rw [dCs_app]
       exact HO8.out
      case measure=>rw [hwq.out];simp [intOf];exact hqy.out
    · obtain rfl:y=0:=by omega
      obtain ⟨e1,e2⟩:=HD.out.done
      obtain ⟨A',c',rfl,hc',hcm'⟩:=own_slice' hown
      have hol:=HD.out.1
      subst hol
      have hnl:SlN wr (fun k=>P k∧k≠w.heap.size) A' (dCs o):=(own_slN hown).mono fun k hk=>⟨HP.out k (by have:=HSZ.out;omega),by have:=HSZ.out;omega⟩
      have HM:=hide (make16_any _ (-1) o A' c' wr hnl e1 hc' hcm' (fun _=>.inr rfl))
      rw [e2,HX.out] at HM
      have hwr:Below w.heap.size w wr:=bl_step HB0.out hbr
      have hbb:=HBB.out.step hbr
      clear hown hnl e1 e2
      go_wp2_with fail
      refine HM.out.mono ?_
      rintro e w5 ⟨A5,c5,rfl,hN5,hb5⟩
      have hb55:=bl_step hwr hb5
      have B5:=hbb.step hb5
      have hlt:=B5.lt
      have b0:=B5.cell (i:=0) rfl
      have b1:=B5.cell (i:=1) rfl
      have f0:=B5.frozen 0
      have f1:=B5.frozen 1
      unfold numV
      go_wp2
      refine bodyPost_ret (results_num rfl rfl ((B5.set 0 _).set 1 _)) rfl ?_
      exact gave_set hb55 (Nat.le_refl _) hN5
 · have hu:IntKind.u64.wrap x=(m:Int):=by simp only [IntKind.wrap_u64];omega
   have HX:Hid ((1:Int)*(m:Int)=x):=hide (by omega)
   clear hm hx
   go_enter Tryz.func196,Tryz.ntmps196
   go_wp2
   rw [← hw0]
   clear hw0
   go_loopw [3,5] (fun u d wr=>∃ (k y:Nat) (o:List Nat),u=.int .u64 y∧Hid (IntD m k y o)∧Below w0.heap.size w0 wr∧wr.ownsRow w0.heap.size 3 1 d k (dCs o))
    (fun u _ _=>(intOf u).toNat)
   case atStart=>exact ⟨0,m,[],rfl,HS,Below.refl _ _,World.ownsRow_nil _ _ _ _⟩
   case round =>
    obtain ⟨k,y,o,rfl,HD,hbr,hown⟩:=hrel
    by_cases hy:0<y
    · obtain ⟨hk,hN⟩:=HD.out.step hy
      obtain ⟨r,hr⟩:∃ r,r=y % 65536:=⟨_,rfl⟩
      obtain ⟨q,hq⟩:∃ q,q=y / 65536:=⟨_,rfl⟩
      rw [← hr,← hq] at hN
      have hmod:(y:Int).tmod 65536=(r:Int):=by rw [Int.tmod_eq_emod_of_nonneg (by omega)];omega
      have hdiv:(y:Int).tdiv 65536=(q:Int):=by rw [Int.tdiv_eq_ediv_of_nonneg (by omega)];omega
      have hwr:IntKind.i64.wrap (r:Int)=(r:Int):=by rw [IntKind.wrap_i64];omega
      have hqy:Hid (q<y):=hide (by omega)
      have hwq:Hid (IntKind.u64.wrap (q:Int)=(q:Int)):=hide (by
       have h1:=HD.out.2.2.2.1
       have h2:65536 ^ (4 - k)≤65536 ^ 4:=Nat.pow_le_pow_right (by omega) (by omega)
       simp only [IntKind.wrap_u64]
       omega)
      have HN:=hide hN
      clear hN hr hq HD
      go_wp2_with (at_builtin;refine wpList_append_lies _ rfl (.tmp 14) (.tmp 18) 195 rfl w0.heap.size 3 i0 (.int .i64 0) 1 8 Tryz.underlying195 hi hz0 hz1 hz2 rfl (by decide) _ k _ rfl (own_step hown (bA)) ⟨wr.heap.size,0,none⟩ 1 1 [.int .i64 (r:Int)] rfl rfl (blk_cells (Blk.new _ _ _)) (by simp [Value.oneCell']) (by omega) (by unfold maxLen;omega) (by omega) (by have:=hbr.size;simp;omega) (wr.heap.size+1) (by simp) ?_)
      intro g' cap w8 hown8 hgrow hat hlt8
      have hb8:Below w0.heap.size w0 w8:=(bl_alloc hbr _).grown hgrow (by have:=hbr.size;simp;omega) (fun j hj=>own_base hown hj)
      have HO8:=hide hown8;have HB8:=hide hb8
      clear hown8 hb8 hgrow hat hlt8
      go_wp2
      go_roundw
      case rel =>
       refine ⟨k+1,q,o++[r],by rw [hwq.out],HN,HB8.out,?_⟩
       rw [dCs_app]
       exact HO8.out
      case measure=>rw [hwq.out];simp [intOf];exact hqy.out
    · obtain rfl:y=0:=by omega
      obtain ⟨e1,e2⟩:=HD.out.done
      obtain ⟨A',c',rfl,hc',hcm'⟩:=own_slice' hown
      have hol:=HD.out.1
      subst hol
      have hnl:SlN wr (fun k=>P k∧k≠w.heap.size) A' (dCs o):=(own_slN hown).mono fun k hk=>⟨HP.out k (by have:=HSZ.out;omega),by have:=HSZ.out;omega⟩
      have HM:=hide (make16_any _ 1 o A' c' wr hnl e1 hc' hcm' (fun _=>.inl rfl))
      rw [e2,HX.out] at HM
      have hwr:Below w.heap.size w wr:=bl_step HB0.out hbr
      have hbb:=HBB.out.step hbr
      clear hown hnl e1 e2
      go_wp2_with fail
      refine HM.out.mono ?_
      rintro e w5 ⟨A5,c5,rfl,hN5,hb5⟩
      have hb55:=bl_step hwr hb5
      have B5:=hbb.step hb5
      have hlt:=B5.lt
      have b0:=B5.cell (i:=0) rfl
      have b1:=B5.cell (i:=1) rfl
      have f0:=B5.frozen 0
      have f1:=B5.frozen 1
      unfold numV
      go_wp2
      refine bodyPost_ret (results_num rfl rfl ((B5.set 0 _).set 1 _)) rfl ?_
      exact gave_set hb55 (Nat.le_refl _) hN5
theorem neg_raw (s s2:Int) (m c:Nat) (A:Option Addr) (w:World) (hsg:IntKind.i64.wrap (-s)=s2) :
 Calls Tryz.prog 200 #[.agg #[.int .i64 s,.slice A m c]] w fun e w'=>e=.returned (.agg #[.int .i64 s2,.slice A m c])∧Below w.heap.size w w':=by
 go_enter Tryz.func200,Tryz.ntmps200
 go_wp2
 refine bodyPost_ret (results_num rfl rfl (Blk.new2 _ _ _ _)) rfl ?_
 exact ⟨rfl,bl_alloc (bA) _⟩
theorem neg_any (P:Nat→Prop) (n:Int) (A:Option Addr) (c:Nat) (w:World) (hn:NumAt w P n A c) :
 Calls Tryz.prog 200 #[numV n A c] w (GaveR P (-n) w):=by
 have hsg:IntKind.i64.wrap (-n.sign)=(-n).sign:=by
  rw [Int.sign_neg,IntKind.wrap_i64]
  rcases Int.lt_trichotomy n 0 with h | h | h
  · rw [Int.sign_eq_neg_one_of_neg h];rfl
  · subst h;rfl
  · rw [Int.sign_eq_one_of_pos h];rfl
 unfold numV
 refine (neg_raw n.sign (-n).sign _ c A w hsg).mono ?_
 rintro e w' ⟨rfl,hb⟩
 have hab:(-n).natAbs=n.natAbs:=Int.natAbs_neg n
 refine ⟨A,c,?_,?_,hb⟩
 · unfold numV;rw [hab]
 · unfold NumAt;rw [hab];exact hn.step hb
end
section
open Go.RowKit
theorem dCs_set (l:List Nat) (i d:Nat):dCs (l.set i d)=(dCs l).set i (.int .i64 (d:Int)):=by unfold dCs;rw [List.map_set]
theorem mul_raw (P:Nat→Prop) (s1 s2 s:Int) (l1 l2:List Nat) (la lb:Nat) (A B:Option Addr) (c d:Nat) (w:World) (hA:Sl w w.heap.size A (dCs l1)) (hB:Sl w w.heap.size B (dCs l2)) (ok1:dOk l1) (ok2:dOk l2)
 (hla:l1.length=la) (hlb:l2.length=lb) (hm:la≤400) (hn:lb≤400) (hP:Up w P) (hs:IntKind.i64.wrap (s1*s2)=s) (hsg:dval l1*dval l2≠0→s=1∨s=-1) (N:Int) (hN:s*(dval l1*dval l2:Nat)=N) :
 Calls Tryz.prog 168 #[.agg #[.int .i64 s1,.slice A la c],.agg #[.int .i64 s2,.slice B lb d]] w (GaveR P N w):=by
 obtain ⟨w0,hw0⟩:∃ w0,w0=((w.alloc (.cells #[.int .i64 s1,.slice A la c] 197)).alloc (.cells #[.int .i64 s2,.slice B lb d] 197)).alloc (.cells #[.int .i64 0,.slice none 0 0] 197):=⟨_,rfl⟩
 have hb0:Below w.heap.size w w0:=by rw [hw0];exact bl_alloc (bl_alloc (bA) _) _
 have B1:Blk w0 w.heap.size 197 #[.int .i64 s1,.slice A la c]:=by rw [hw0];exact ((Blk.new _ _ _).alloc _).alloc _
 have B2:Blk w0 (w.heap.size+1) 197 #[.int .i64 s2,.slice B lb d]:=by rw [hw0];exact (Blk.new2 _ _ _ _).alloc _
 have B3:Blk w0 (w.heap.size+1+1) 197 #[.int .i64 0,.slice none 0 0]:=by
  rw [hw0]
  have h:=Blk.new ((w.alloc (.cells #[.int .i64 s1,.slice A la c] 197)).alloc (.cells #[.int .i64 s2,.slice B lb d] 197)) 197 #[.int .i64 0,.slice none 0 0]
  simpa using h
 have hsz:w0.heap.size=w.heap.size+1+1+1:=by rw [hw0];simp
 have HA:=hide hA;have HB:=hide hB;have OK1:=hide ok1;have OK2:=hide ok2;have HP:=hide hP;have HSG:=hide hsg
 have HB0:=hide hb0;have HB1:=hide B1;have HB2:=hide B2;have HB3:=hide B3;have HSZ:=hide hsz
 obtain ⟨i0,hi,hz0,hz1,hz2⟩:=info_parts int_info
 have HLA:=hide hla;have HLB:=hide hlb;have HNN:=hide hN
 clear hA hB ok1 ok2 hP hsg hb0 B1 B2 B3 hsz hla hlb hN
 go_enter Tryz.func168,Tryz.ntmps168
 go_wp2
 rw [← hw0]
 clear hw0
 go_loopw [5,6] (fun u i wr=>∃ k:Nat,k≤la+lb∧i=.int .i64 k∧Below w0.heap.size w0 wr∧wr.ownsRow w0.heap.size 3 1 u k (dCs (List.replicate k 0)))
  (fun _ i _=>(la+lb) - (intOf i).toNat)
 case atStart=>exact ⟨0,by omega,rfl,Below.refl _ _,World.ownsRow_nil _ _ _ _⟩
 case round =>
  obtain ⟨k,hk,rfl,hbr,hown⟩:=hrel
  have r1:=(HB1.out.step hbr).cell (i:=1) rfl
  have r2:=(HB2.out.step hbr).cell (i:=1) rfl
  by_cases h:k<la+lb
  · have hki:(k:Int)<(la:Int)+(lb:Int):=by omega
    go_wp2_with (at_builtin;refine wpList_append_lies _ rfl (.tmp 22) (.tmp 23) 195 rfl w0.heap.size 3 i0 (.int .i64 0) 1 8 Tryz.underlying195 hi hz0 hz1 hz2 rfl (by decide) _ k _ rfl (own_step hown (bA)) ⟨wr.heap.size,0,none⟩ 1 1 [.int .i64 0] rfl rfl (blk_cells (Blk.new _ _ _)) (by simp [Value.oneCell']) (by omega) (by unfold maxLen;omega) (by omega) (by have:=hbr.size;simp;omega) (wr.heap.size+1) (by simp) ?_)
    intro g' cap w8 hown8 hgrow hat hlt8
    have hb8:Below w0.heap.size w0 w8:=(bl_alloc hbr _).grown hgrow (by have:=hbr.size;simp;omega) (fun j hj=>own_base hown hj)
    have HO8:=hide hown8;have HB8:=hide hb8
    clear hown8 hb8 hgrow hat hlt8
    go_wp2
    go_roundw
    case rel =>
     refine ⟨k+1,by omega,by go_num,HB8.out,?_⟩
     have h1:=HO8.out
     rw [List.replicate_succ',dCs_app]
     exact h1
    case measure=>simp [intOf];omega
  · obtain rfl:k=la+lb:=by omega
    have hki:¬ ((la+lb:Nat):Int)<(la:Int)+(lb:Int):=by omega
    go_wp2
    obtain ⟨A',cap,rfl,hcap,hcapm⟩:=own_slice' hown
    have hnl:∀ k,IntKind.i64.wrap ((k:Int)+(lb:Int))=IntKind.i64.wrap ((k:Int)+(lb:Int)):=fun _=>rfl
    clear hnl r1 r2 hki h hk
    go_loopw [7,8,9,10] (fun u7 _ _ _ wk=>∃ (k:Nat) (o:List Nat),k≤la∧u7=.int .i64 k∧Hid (MulO l1 l2 k o)∧Below w0.heap.size w0 wk∧wk.ownsRow w0.heap.size 3 1 (.slice A' (la+lb) cap) (la+lb) (dCs o))
     (fun u7 _ _ _ _=>la - (intOf u7).toNat)
    case atStart =>
     refine ⟨0,List.replicate (la+lb) 0,by omega,rfl,hide ?_,hbr,hown⟩
     have h:=MulO.start l1 l2
     rw [HLA.out,HLB.out] at h
     exact h
    case round =>
     obtain ⟨k,o,hk,rfl,HO,hbk,howk⟩:=hrel
     clear hown hbr
     have r1:=(HB1.out.step hbk).cell (i:=1) rfl
     have r2:=(HB2.out.step hbk).cell (i:=1) rfl
     by_cases h:k<la
     · obtain ⟨x,hx⟩:∃ x,l1[k]?=some x:=⟨_,List.getElem?_eq_getElem (by have:=HLA.out;omega)⟩
       obtain ⟨g,cap',hv,hgb,hgl,_⟩:=own_form howk (by omega)
       obtain ⟨rfl,rfl⟩:A'=some ⟨g,0,none⟩∧cap=cap':=by
        have h:=hv
        simp only [Value.slice.injEq] at h
        exact ⟨h.1,h.2.2⟩
       have hx6:=OK1.out.at_ hx
       have HX:=hide hx
       clear hv hx hgl
       go_wp2
       go_loopw [8,9,10] (fun u8 u9 _ wj=>∃ (j cy:Nat) (o':List Nat),j≤lb∧u8=.int .i64 cy∧u9=.int .i64 j∧Hid (MulI o l2 x k j cy o')∧Below w0.heap.size w0 wj∧wj.ownsRow w0.heap.size 3 1 (.slice (some ⟨g,0,none⟩) (la+lb) cap) (la+lb) (dCs o'))
        (fun _ u9 _ _=>lb - (intOf u9).toNat)
       case atStart=>exact ⟨0,0,o,by omega,rfl,rfl,hide (MulI.start x k HO.out.2.1),hbk,howk⟩
       case round =>
        obtain ⟨j,cy,o',hj,rfl,rfl,HI,hbj,howj⟩:=hrel
        clear howk hbk r1 r2
        have r1:=(HB1.out.step hbj).cell (i:=1) rfl
        have r2:=(HB2.out.step hbj).cell (i:=1) rfl
        have hlen:o'.length=la+lb:=by rw [HI.out.1,HO.out.1,HLA.out,HLB.out]
        have hcy:=HI.out.2.2.1
        by_cases hjl:j<lb
        · obtain ⟨y,hy⟩:∃ y,l2[j]?=some y:=⟨_,List.getElem?_eq_getElem (by have:=HLB.out;omega)⟩
          obtain ⟨z,hz⟩:∃ z,o'[k+j]?=some z:=⟨_,List.getElem?_eq_getElem (by omega)⟩
          have hy6:=OK2.out.at_ hy
          have hz6:=HI.out.2.1.at_ hz
          obtain ⟨b,off,rfl,hb,hc1⟩:=((HA.out.below HB0.out).more (by have:=HSZ.out;omega:w.heap.size≤w0.heap.size)).below hbj |>.dg HX.out
          obtain ⟨b',off',rfl,hb',hc2⟩:=((HB.out.below HB0.out).more (by have:=HSZ.out;omega:w.heap.size≤w0.heap.size)).below hbj |>.dg hy
          obtain ⟨hc3,hf3⟩:=own_cell howj (dCs_get hz)
          have hN:=HI.out.step hx6 hy6 hy hz
          obtain ⟨kj,hkj⟩:∃ kj,kj=k+j:=⟨_,rfl⟩
          rw [← hkj] at hN hc3 hf3
          have hkji:(k:Int)+(j:Int)=(kj:Int):=by omega
          have hxyb:x*y≤65535*65535:=Nat.mul_le_mul (by omega) (by omega)
          obtain ⟨xy,hxy⟩:∃ xy,xy=x*y:=⟨_,rfl⟩
          rw [← hxy] at hN hxyb
          have hxyi:(x:Int)*(y:Int)=(xy:Int):=by rw [hxy];simp
          obtain ⟨r,hr⟩:∃ r,r=(z+xy+cy) % 65536:=⟨_,rfl⟩
          obtain ⟨q,hq⟩:∃ q,q=(z+xy+cy) / 65536:=⟨_,rfl⟩
          rw [← hr,← hq] at hN
          have hmod:((z:Int)+(xy:Int)+(cy:Int)).tmod 65536=(r:Int):=by rw [Int.tmod_eq_emod_of_nonneg (by omega)];omega
          have hdiv:((z:Int)+(xy:Int)+(cy:Int)).tdiv 65536=(q:Int):=by rw [Int.tdiv_eq_ediv_of_nonneg (by omega)];omega
          have hkjl:kj<la+lb:=by omega
          have hkji2:(kj:Int)<(la:Int)+(lb:Int):=by omega
          have howj2:=fun n u=>own_put (own_step howj (bl_drewN (Below.refl _ _) n)) kj u
          have hqb:q<65536:=hN.2.2.1
          have HN:=hide hN;have HOW:=hide howj2;have HBJ:=hide hbj
          clear hN howj2 hr hq hxy hkj hlen howj HI hbj hy hz
          go_wp2
          go_quiet (fail)
          go_wp2
          go_roundw
          case rel =>
           refine ⟨j+1,q,o'.set kj r,by omega,by go_num,by go_num,HN,(bl_drewN HBJ.out _).setCell (by exact hgb) _,?_⟩
           rw [dCs_set]
           exact HOW.out _ _
          case measure=>simp [intOf];omega
        · obtain rfl:j=lb:=by omega
          have hI:=HI.out
          rw [← HLB.out] at hI
          obtain ⟨hz,hN⟩:=HO.out.step HX.out hI
          rw [HLB.out] at hz hN
          obtain ⟨hc3,hf3⟩:=own_cell howj (dCs_get hz)
          have hkl:k+j<la+j:=by omega
          obtain ⟨kj,hkj⟩:∃ kj,kj=k+j:=⟨_,rfl⟩
          rw [← hkj] at hN hc3 hf3
          have hkji:(k:Int)+(j:Int)=(kj:Int):=by omega
          have hkji2:(kj:Int)<(la:Int)+(j:Int):=by omega
          have howj2:=fun u=>own_put howj kj u
          have HN:=hide hN;have HOW:=hide howj2;have HBJ:=hide hbj
          clear hN howj2 hkj hlen howj HI hI hbj hz
          go_wp2
          go_roundw
          case rel =>
           refine ⟨k+1,o'.set kj cy,by omega,by go_num,HN,HBJ.out.setCell (by exact hgb) _,?_⟩
           rw [dCs_set]
           exact HOW.out _
          case measure=>simp [intOf];omega
     · obtain rfl:k=la:=by omega
       have hO:=HO.out
       rw [← HLA.out] at hO
       obtain ⟨e1,e2,e3⟩:=hO.done
       have hnl:SlN wr (fun i=>P i∧i≠w.heap.size+1+1) A' (dCs o):=(own_slN howk).mono fun i hi=>⟨HP.out i (by have:=HSZ.out;omega),by have:=HSZ.out;omega⟩
       have r10:=(HB1.out.step hbk).cell (i:=0) rfl
       have r20:=(HB2.out.step hbk).cell (i:=0) rfl
       have hsg:=HSG.out
       rw [← e2] at hsg
       have hol:o.length=k+lb:=by rw [e3,HLA.out,HLB.out]
       have HM:=make16_any _ s o A' cap wr hnl e1 (by omega) hcapm hsg
       rw [e2,hol,HNN.out] at HM
       have HMM:=hide HM
       have hwk:Below w.heap.size w wr:=bl_step HB0.out hbk
       have hbb:=HB3.out.step hbk
       have HBW:=hide hwk;have HBB:=hide hbb
       clear howk hnl e1 e2 e3 HM hsg hO HO hwk hbb hol
       go_wp2_with fail
       refine HMM.out.mono ?_
       rintro e w5 ⟨A5,c5,rfl,hN5,hb5⟩
       have hb55:=bl_step HBW.out hb5
       have B5:=HBB.out.step hb5
       have hlt:=B5.lt
       have b0:=B5.cell (i:=0) rfl
       have b1:=B5.cell (i:=1) rfl
       have f0:=B5.frozen 0
       have f1:=B5.frozen 1
       unfold numV
       go_wp2
       refine bodyPost_ret (results_num rfl rfl ((B5.set 0 _).set 1 _)) rfl ?_
       exact gave_set hb55 (by omega) hN5
theorem mul_any' {Pa Pb:Nat→Prop} (P:Nat→Prop) (a b:Int) (A B:Option Addr) (c d:Nat) (w:World) (ha:NumAt w Pa a A c) (hb:NumAt w Pb b B d) (hla:(digs a.natAbs).length≤400) (hlb:(digs b.natAbs).length≤400) (hP:Up w P) :
 Calls Tryz.prog 168 #[numV a A c,numV b B d] w (GaveR P (a*b) w):=by
 have sg:∀ n:Int,n.sign=-1∨n.sign=0∨n.sign=1:=fun n=>by
  rcases Int.lt_trichotomy n 0 with h | h | h
  · exact .inl (Int.sign_eq_neg_one_of_neg h)
  · subst h;exact .inr (.inl rfl)
  · exact .inr (.inr (Int.sign_eq_one_of_pos h))
 have h:=mul_raw P a.sign b.sign (a*b).sign (digs a.natAbs) (digs b.natAbs) _ _ A B c d w ha.1.any hb.1.any (digs_ok _) (digs_ok _) rfl rfl hla hlb hP
  (by rw [Int.sign_mul,IntKind.wrap_i64];rcases sg a with h | h | h <;> rcases sg b with h' | h' | h' <;> rw [h,h'] <;> rfl)
  (by
    rw [dval_digs,dval_digs]
    intro h0
    have h1:a*b≠0:=by
     intro h2
     rw [← Int.natAbs_mul,h2] at h0
     exact h0 rfl
    rcases Int.lt_trichotomy (a*b) 0 with h | h | h
    · exact .inr (Int.sign_eq_neg_one_of_neg h)
    · exact absurd h h1
    · exact .inl (Int.sign_eq_one_of_pos h)) (a*b) (by rw [dval_digs,dval_digs,← Int.natAbs_mul,Int.sign_mul_natAbs])
 exact h
theorem mul_any (P:Nat→Prop) (a b:Int) (A B:Option Addr) (c d:Nat) (w:World) (ha:NumAt w P a A c) (hb:NumAt w P b B d) (hla:(digs a.natAbs).length≤400) (hlb:(digs b.natAbs).length≤400) (hP:Up w P) :
 Calls Tryz.prog 168 #[numV a A c,numV b B d] w (GaveR P (a*b) w):=mul_any' P a b A B c d w ha hb hla hlb hP
end
end Go.Proofs.YtpnoofphfomjoaaGreatDoor
