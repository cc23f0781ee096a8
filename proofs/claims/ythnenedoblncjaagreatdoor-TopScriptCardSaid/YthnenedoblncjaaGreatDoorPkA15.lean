/- LimbMath -/
import Derived.RowKit
set_option maxRecDepth 1000000
set_option maxHeartbeats 8000000
namespace Go.Proofs.YthnenedoblncjaaGreatDoor
section
open Go.RowKit
theorem Xj(n:Nat):0<(18446744073709551616:Int) ^ n:=Int.pow_pos (by decide)
def YM:List Int->Int
 | []=>0
 | a::t=>a+18446744073709551616*YM t
def L64(l:List Int):Prop:=∀ x∈l,0<=x/\x<18446744073709551616
theorem L64.tail{a:Int}{t:List Int}(h:L64 (a::t)):L64 t:=fun x hx=>h x (by simp [hx])
theorem L64.head{a:Int}{t:List Int}(h:L64 (a::t)):0<=a/\a<18446744073709551616:=h a (by simp)
theorem Bc:∀ (l:List Int),L64 l->0<=YM l/\YM l<(18446744073709551616:Int) ^ l.length
 | [],_=>by simp [YM]
 | a::t,h=>by
   have h1:=Bc t h.tail;have h2:=h.head;simp only [YM,List.length_cons];rw [Int.pow_succ];have:YM t+1<=(18446744073709551616:Int) ^ t.length:=h1.2;constructor
   · omega
   · omega
theorem RZ(l:List Int)(b:Int):YM (l++[b])=YM l+b*(18446744073709551616:Int) ^ l.length:=by
 induction l with
 | nil=>simp [YM]
 | cons a l ih =>
   simp only [List.cons_append,YM,ih,List.length_cons];rw [Int.pow_succ,Int.mul_add,Int.add_assoc]
   congr 2
   rw [Int.mul_comm,Int.mul_assoc]
theorem GQ(l m:List Int):YM (l++m)=YM l+(18446744073709551616:Int) ^ l.length*YM m:=by
 induction l with
 | nil=>simp [YM]
 | cons a l ih =>
   simp only [List.cons_append,YM,ih,List.length_cons];rw [Int.pow_succ,Int.mul_add,Int.add_assoc]
   congr 2
   rw [<- Int.mul_assoc,Int.mul_comm 18446744073709551616]
theorem GU:∀ (l:List Int) (k:Nat) (x v:Int),l[k]?=some x->YM (l.set k v)=YM l+(v - x)*(18446744073709551616:Int) ^ k
 | [],_,_,_,h=>by simp at h
 | a::t,0,x,v,h=>by
   have:a=x:=(by simpa using h);subst this;simp only [List.set_cons_zero,YM,Int.pow_zero];omega
 | a::t,k+1,x,v,h=>by
   have ih:=GU t k x v (by simpa using h);simp only [List.set_cons_succ,YM,ih,Int.pow_succ];rw [Int.mul_add,Int.add_assoc]
   congr 2
   rw [<- Int.mul_assoc,Int.mul_comm 18446744073709551616,Int.mul_assoc,Int.mul_comm 18446744073709551616]
def lim(v:Int)(i:Nat):Int:=v / (18446744073709551616:Int) ^ i % 18446744073709551616
def ZN(n:Nat)(v:Int):List Int:=(List.range n).map (lim v)
theorem ZC(n:Nat)(v:Int):(ZN n v).length=n:=by simp [ZN]
theorem V8{n i:Nat}(v:Int)(h:i<n):(ZN n v)[i]?=some (lim v i):=by simp [ZN,h]
theorem JW(n:Nat)(v:Int):ZN (n+1) v=ZN n v++[lim v n]:=by simp [ZN,List.range_succ]
theorem UD(v:Int)(i:Nat):0<=lim v i/\lim v i<18446744073709551616:=⟨Int.emod_nonneg _ (by decide),Int.emod_lt_of_pos _ (by decide)⟩
theorem uY(n:Nat)(v:Int):L64 (ZN n v):=fun x hx=>by
 obtain ⟨i,_,rfl⟩:=List.mem_map.1 hx;exact UD v i
theorem U8{m n:Nat}(v:Int)(h:n<=m):(ZN m v).take n=ZN n v:=by
 unfold ZN;rw [<- List.map_take,List.take_range,Nat.min_eq_left h]
theorem Xc(n:Nat)(v:Int):YM (ZN n v)=v % (18446744073709551616:Int) ^ n:=by
 induction n with
 | zero=>simp [ZN,YM]
 | succ n ih =>
   rw [JW,RZ,ih,ZC];unfold lim;have h1:=Int.emod_add_mul_ediv v ((18446744073709551616:Int) ^ n);have h2:=Int.emod_add_mul_ediv v ((18446744073709551616:Int) ^ (n+1));have h3:=Int.emod_add_mul_ediv (v / (18446744073709551616:Int) ^ n) 18446744073709551616;have e:(18446744073709551616:Int) ^ (n+1)=(18446744073709551616:Int) ^ n*18446744073709551616:=Int.pow_succ 18446744073709551616 n;have e3:v / (18446744073709551616:Int) ^ n / 18446744073709551616=v / (18446744073709551616:Int) ^ (n+1):=(by rw [e,Int.ediv_ediv_of_nonneg (Int.le_of_lt (Xj n))]);rw [e3] at h3;have h4:(18446744073709551616:Int) ^ n*(v / (18446744073709551616:Int) ^ n % 18446744073709551616+18446744073709551616*(v / (18446744073709551616:Int) ^ (n+1)))=(18446744073709551616:Int) ^ n*(v / (18446744073709551616:Int) ^ n):=(by rw [h3]);rw [Int.mul_add,<- Int.mul_assoc,<- e] at h4;rw [Int.mul_comm (v / (18446744073709551616:Int) ^ n % 18446744073709551616)];omega
theorem GR:∀ (a b:List Int),L64 a->L64 b->a.length=b.length->YM a=YM b->a=b
 | [],[],_,_,_,_=>rfl
 | [],_::_,_,_,h,_=>by simp at h
 | _::_,[],_,_,h,_=>by simp at h
 | x::a,y::b,ha,hb,hl,he=>by
   simp only [YM] at he;have h1:=ha.head;have h2:=hb.head;have hxy:x=y:=(by omega);have:YM a=YM b:=(by omega);rw [hxy,GR a b ha.tail hb.tail (by simpa using hl) this]
theorem Iu{l:List Int}{n:Nat}{v:Int}(hl:l.length=n)(h:L64 l)(hv:YM l % (18446744073709551616:Int) ^ n=v % (18446744073709551616:Int) ^ n):l=ZN n v:=by
 refine GR _ _ h (uY _ _) (by rw [hl,ZC]) ?_;rw [Xc,<- hv];have:=Bc l h;rw [hl] at this;exact (Int.emod_eq_of_lt this.1 this.2).symm
theorem TH{a b m:Int}(k:Int)(h:a=b+m*k):a % m=b % m:=by rw [h,Int.add_mul_emod_self_left]
def Fits(n:Nat)(v:Int):Prop:=-((18446744073709551616:Int) ^ n)<=2*v/\2*v<(18446744073709551616:Int) ^ n
theorem uX{m i:Nat}{v:Int}(hf:Fits m v)(hi:m<=i):lim v i=if v<0 then 18446744073709551616 - 1 else 0:=by
 unfold lim;obtain ⟨h1,h2⟩:=hf;have hp:(18446744073709551616:Int) ^ m<=(18446744073709551616:Int) ^ i:=by
  obtain ⟨d,rfl⟩:=Nat.exists_eq_add_of_le hi;rw [Int.pow_add];have:=Xj d;have:=Xj m;have:=Int.mul_le_mul_of_nonneg_left (show (1:Int)<=(18446744073709551616:Int) ^ d by omega) (Int.le_of_lt (Xj m));omega
 have hpos:=Xj m
 by_cases hv:v<0
 · rw [if_pos hv];have:v / (18446744073709551616:Int) ^ i=-1:=by
    have h3:=Int.emod_add_mul_ediv v ((18446744073709551616:Int) ^ i);have h4:=Int.emod_nonneg v (show (18446744073709551616:Int) ^ i≠0 by have:=Xj i;omega);have h5:=Int.emod_lt_of_pos v (Xj i);have hq0:v / (18446744073709551616:Int) ^ i<0:=Int.ediv_neg_of_neg_of_pos hv (Xj i);have hq1:-1<=v / (18446744073709551616:Int) ^ i:=by
     rw [Int.le_ediv_iff_mul_le (Xj i)];omega
    omega
   rw [this];rfl
 · rw [if_neg hv,Int.ediv_eq_zero_of_lt (by omega) (by omega)];rfl
theorem Aw{m:Nat}{v:Int}(hf:Fits (m+1) v):(9223372036854775808<=lim v m ↔ v<0):=by
 obtain ⟨h1,h2⟩:=hf;have e:(18446744073709551616:Int) ^ (m+1)=(18446744073709551616:Int) ^ m*18446744073709551616:=Int.pow_succ 18446744073709551616 m;rw [e] at h1 h2;have hpos:=Xj m;unfold lim;have hq2:v / (18446744073709551616:Int) ^ m<9223372036854775808:=by
  rw [Int.ediv_lt_iff_lt_mul hpos];omega
 have hq1:-9223372036854775808<=v / (18446744073709551616:Int) ^ m:=by
  rw [Int.le_ediv_iff_mul_le hpos];omega
 have hs:v / (18446744073709551616:Int) ^ m<0 ↔ v<0:=by
  constructor
  · intro h;refine Int.not_le.1 fun h0=>?_;have:=Int.ediv_nonneg h0 (Int.le_of_lt hpos);omega
  · intro h;exact Int.ediv_neg_of_neg_of_pos h hpos
 rw [<- hs];show 9223372036854775808<=v / (18446744073709551616:Int) ^ m % 18446744073709551616 ↔ _;omega
theorem FU{m n:Nat}{v:Int}(hf:Fits m v)(h:m<=n):ZN n v=ZN m v++List.replicate (n - m) (if v<0 then 18446744073709551616 - 1 else 0):=by
 obtain ⟨d,rfl⟩:=Nat.exists_eq_add_of_le h;rw [Nat.add_sub_cancel_left]
 induction d with
 | zero=>simp
 | succ d ih =>
   rw [<- Nat.add_assoc,JW,ih (by omega),uX hf (by omega),List.replicate_succ',List.append_assoc]
theorem Fits.mono{m n:Nat}{v:Int}(h:Fits m v)(hn:m<=n):Fits n v:=by
 obtain ⟨d,rfl⟩:=Nat.exists_eq_add_of_le hn;have h1:=Xj d;have h2:=Xj m;have:(18446744073709551616:Int) ^ m<=(18446744073709551616:Int) ^ (m+d):=by
  rw [Int.pow_add];have:=Int.mul_le_mul_of_nonneg_left (show (1:Int)<=(18446744073709551616:Int) ^ d by omega) (Int.le_of_lt (Xj m));omega
 exact ⟨by have:=h.1;omega,by have:=h.2;omega⟩
theorem yY{n:Nat}{v:Int}(hf:Fits n v):(∀ i,i<n->lim v i=0) ↔ v=0:=by
 constructor
 · intro h;have e:ZN n v=ZN n 0:=by
    unfold ZN;refine List.map_congr_left fun i hi=>?_;rw [h i (List.mem_range.1 hi)];unfold lim;simp
   have h1:=Xc n v;rw [e,Xc,Int.zero_emod] at h1;obtain ⟨f1,f2⟩:=hf;have hp:=Xj n;have h3:=Int.emod_add_mul_ediv v ((18446744073709551616:Int) ^ n);rw [<- h1,Int.zero_add] at h3;have hq:v / (18446744073709551616:Int) ^ n=0:=by
    have hq1:v / (18446744073709551616:Int) ^ n<1:=(by rw [Int.ediv_lt_iff_lt_mul hp];omega);have hq2:-1<v / (18446744073709551616:Int) ^ n:=by
     refine Int.not_le.1 fun h=>?_;have:(18446744073709551616:Int) ^ n*(v / (18446744073709551616:Int) ^ n)<=(18446744073709551616:Int) ^ n*(-1):=Int.mul_le_mul_of_nonneg_left h (Int.le_of_lt hp);omega
    omega
   rw [hq,Int.mul_zero] at h3;exact h3.symm
 · rintro rfl i _;unfold lim;simp
def Af(x y b:Int):Int:=if x<y+b then 1 else 0
theorem bI(x y b:Int):0<=Af x y b/\Af x y b<=1:=by unfold Af;split <;> omega
theorem L64.snoc{l:List Int}{z:Int}(h:L64 l)(h0:0<=z)(h1:z<18446744073709551616):L64 (l++[z]):=fun x hx=>by
 rcases List.mem_append.1 hx with h2|h2
 · exact h x h2
 · rw [List.mem_singleton.1 h2];exact ⟨h0,h1⟩
theorem L64.set{l:List Int}{z:Int}(h:L64 l)(k:Nat)(h0:0<=z)(h1:z<18446744073709551616):L64 (l.set k z):=fun x hx=>by
 rcases List.mem_or_eq_of_mem_set hx with h2|h2
 · exact h x h2
 · rw [h2];exact ⟨h0,h1⟩
theorem XY{l:List Int}{k:Nat}{x:Int}(h:l[k]?=some x):YM (l.take (k+1))=YM (l.take k)+x*(18446744073709551616:Int) ^ k:=by
 have hk:k<l.length:=(List.getElem?_eq_some_iff.1 h).1;rw [List.take_add_one,h];show YM (l.take k++[x])=_;rw [RZ,List.length_take,Nat.min_eq_left (by omega)]
structure PI(x y done:List Int)(k:Nat)(b:Int):Prop where
 len:done.length=k
 u:L64 done
 b0:0<=b
 b1:b<=1
 eq:YM done - b*(18446744073709551616:Int) ^ k=YM (x.take k) - YM (y.take k)
theorem PI.start(x y:List Int):PI x y [] 0 0:=⟨rfl,fun _ h=>by simp at h,by omega,by omega,by simp [YM]⟩
theorem PI.step{x y done:List Int}{k:Nat}{b a c:Int}(h:PI x y done k b)(hx:x[k]?=some a)(hy:y[k]?=some c)(a0:0<=a)(a1:a<18446744073709551616)(c0:0<=c)(c1:c<18446744073709551616):
 PI x y (done++[(a - c - b) % 18446744073709551616]) (k+1) (Af a c b):=by
 obtain ⟨h1,h2,h3,h4,h5⟩:=h;have hb:=bI a c b;refine ⟨by simp [h1],h2.snoc (by omega) (by omega),hb.1,hb.2,?_⟩;have hz:(a - c - b) % 18446744073709551616=a - c - b+Af a c b*18446744073709551616:=by unfold Af;split <;> omega
 rw [RZ,h1,XY hx,XY hy,hz,Int.pow_succ,Int.add_mul,Int.sub_mul,Int.sub_mul];have e:Af a c b*18446744073709551616*(18446744073709551616:Int) ^ k=Af a c b*((18446744073709551616:Int) ^ k*18446744073709551616):=by rw [Int.mul_assoc,Int.mul_comm 18446744073709551616]
 rw [e];omega
theorem PI.done{n:Nat}{a c b:Int}{l:List Int}(h:PI (ZN n a) (ZN n c) l n b):l=ZN n (a - c):=by
 obtain ⟨h1,h2,_,_,h5⟩:=h;refine Iu h1 h2 ?_;rw [U8 a (Nat.le_refl n),U8 c (Nat.le_refl n),Xc,Xc] at h5;have e:YM l=a % (18446744073709551616:Int) ^ n - c % (18446744073709551616:Int) ^ n+(18446744073709551616:Int) ^ n*b:=by rw [Int.mul_comm];omega
 rw [TH b e];exact (Int.sub_emod a c _).symm
structure Px(x y done:List Int)(k:Nat)(b:Int):Prop where
 len:done.length=k
 u:L64 done
 b0:0<=b
 b1:b<=1
 eq:YM done+b*(18446744073709551616:Int) ^ k=YM (x.take k)+YM (y.take k)
theorem Px.start(x y:List Int):Px x y [] 0 0:=⟨rfl,fun _ h=>by simp at h,by omega,by omega,by simp [YM]⟩
theorem Px.step{x y done:List Int}{k:Nat}{b a c:Int}(h:Px x y done k b)(hx:x[k]?=some a)(hy:y[k]?=some c)(a0:0<=a)(a1:a<18446744073709551616)(c0:0<=c)(c1:c<18446744073709551616):
 Px x y (done++[(a+c+b) % 18446744073709551616]) (k+1) ((a+c+b) / 18446744073709551616):=by
 obtain ⟨h1,h2,h3,h4,h5⟩:=h;refine ⟨by simp [h1],h2.snoc (by omega) (by omega),by omega,by omega,?_⟩;have hz:(a+c+b) % 18446744073709551616=a+c+b - (a+c+b) / 18446744073709551616*18446744073709551616:=by omega
 rw [RZ,h1,XY hx,XY hy,hz,Int.pow_succ,Int.sub_mul,Int.add_mul,Int.add_mul];have e:(a+c+b) / 18446744073709551616*18446744073709551616*(18446744073709551616:Int) ^ k=(a+c+b) / 18446744073709551616*((18446744073709551616:Int) ^ k*18446744073709551616):=by rw [Int.mul_assoc,Int.mul_comm 18446744073709551616]
 rw [e];omega
theorem Px.done{n:Nat}{a c b:Int}{l:List Int}(h:Px (ZN n a) (ZN n c) l n b):l=ZN n (a+c):=by
 obtain ⟨h1,h2,_,_,h5⟩:=h;refine Iu h1 h2 ?_;rw [U8 a (Nat.le_refl n),U8 c (Nat.le_refl n),Xc,Xc] at h5;have e:YM l=a % (18446744073709551616:Int) ^ n+c % (18446744073709551616:Int) ^ n+(18446744073709551616:Int) ^ n*(-b):=by rw [Int.mul_neg,Int.mul_comm];omega
 rw [TH (-b) e];exact (Int.add_emod a c _).symm
structure NJ(l0 l:List Int)(i j n:Nat)(xi:Int)(y:List Int)(carry:Int):Prop where
 len:l.length=n
 u:L64 l
 c0:0<=carry
 c1:carry<18446744073709551616
 eq:YM l+carry*(18446744073709551616:Int) ^ (i+j)=YM l0+xi*(18446744073709551616:Int) ^ i*YM (y.take j)
theorem NJ.start{l0:List Int}{n:Nat}(i:Nat)(xi:Int)(y:List Int)(h:l0.length=n)(hu:L64 l0):NJ l0 l0 i 0 n xi y 0:=⟨h,hu,by omega,by omega,by simp [YM]⟩
theorem iF{a b c d:Int}(a0:0<=a)(a1:a<18446744073709551616)(b0:0<=b)(b1:b<18446744073709551616)(c0:0<=c)(c1:c<18446744073709551616)(d0:0<=d)(d1:d<18446744073709551616):0<=a*b+c+d/\a*b+c+d<18446744073709551616*18446744073709551616:=by
 have h1:=Int.mul_nonneg a0 b0;have h2:=Int.mul_le_mul (show a<=18446744073709551615 by omega) (show b<=18446744073709551615 by omega) b0 (by decide);omega
theorem NJ.step{l0 l y:List Int}{i j n:Nat}{xi carry o yj:Int}(h:NJ l0 l i j n xi y carry)(ho:l[i+j]?=some o)(hy:y[j]?=some yj)(x0:0<=xi)(x1:xi<18446744073709551616)(y0:0<=yj)(y1:yj<18446744073709551616):
 NJ l0 (l.set (i+j) ((xi*yj+o+carry) % 18446744073709551616)) i (j+1) n xi y ((xi*yj+o+carry) / 18446744073709551616):=by
 obtain ⟨h1,h2,h3,h4,h5⟩:=h;have Sw:=h2 o (List.mem_of_getElem? ho);have hs:=iF x0 x1 y0 y1 Sw.1 Sw.2 h3 h4;refine ⟨by simp [h1],h2.set _ (by omega) (by omega),by omega,by omega,?_⟩;generalize hs':xi*yj+o+carry=s at *;rw [GU _ _ _ _ ho,XY hy,<- Nat.add_assoc,Int.pow_succ,Int.mul_add,Int.sub_mul];have e1:s / 18446744073709551616*((18446744073709551616:Int) ^ (i+j)*18446744073709551616)=(s - s % 18446744073709551616)*(18446744073709551616:Int) ^ (i+j):=by
  rw [Int.mul_comm ((18446744073709551616:Int) ^ (i+j)),<- Int.mul_assoc]
  congr 1
  omega
 have e2:xi*(18446744073709551616:Int) ^ i*(yj*(18446744073709551616:Int) ^ j)=xi*yj*(18446744073709551616:Int) ^ (i+j):=by
  rw [Int.pow_add];simp only [Int.mul_assoc,Int.mul_left_comm]
 have e3:s*(18446744073709551616:Int) ^ (i+j)=xi*yj*(18446744073709551616:Int) ^ (i+j)+o*(18446744073709551616:Int) ^ (i+j)+carry*(18446744073709551616:Int) ^ (i+j):=by rw [<- hs',Int.add_mul,Int.add_mul]
 rw [e1,e2,Int.sub_mul];omega
structure Tz(x y l:List Int)(i n:Nat):Prop where
 len:l.length=n
 u:L64 l
 eq:∃ q,YM l=YM (x.take i)*YM y - (18446744073709551616:Int) ^ n*q
theorem Tz.start(x y:List Int)(n:Nat):Tz x y (List.replicate n 0) 0 n:=by
 refine ⟨by simp,fun z hz=>by rw [List.eq_of_mem_replicate hz];decide,0,?_⟩
 have:∀ n,YM (List.replicate n 0)=0:=fun n=>by
  induction n with
  | zero=>rfl
  | succ n ih=>rw [List.replicate_succ,YM,ih];rfl
 simp [this,YM]
theorem Tz.step{x y l l':List Int}{i n:Nat}{xi carry:Int}(h:Tz x y l i n)(hx:x[i]?=some xi)(hy:y.length=n)(hi:i<=n)(hin:NJ l l' i (n - i) n xi y carry):Tz x y l' (i+1) n:=by
 obtain ⟨q,hq⟩:=h.eq;refine ⟨hin.len,hin.u,q+carry+xi*YM (y.drop (n - i)),?_⟩;have e:=hin.eq;have es:i+(n - i)=n:=by omega
 rw [es,hq] at e;have hv:YM y=YM (y.take (n - i))+(18446744073709551616:Int) ^ (n - i)*YM (y.drop (n - i)):=by
  have h1:=GQ (y.take (n - i)) (y.drop (n - i));rw [List.take_append_drop,List.length_take,Nat.min_eq_left (by omega)] at h1;exact h1
 rw [XY hx,Int.add_mul,Int.mul_add,Int.mul_add];have e1:xi*(18446744073709551616:Int) ^ i*YM y=xi*(18446744073709551616:Int) ^ i*YM (y.take (n - i))+(18446744073709551616:Int) ^ n*(xi*YM (y.drop (n - i))):=by
  conv=>lhs;rw [hv]
  rw [Int.mul_add]
  congr 1
  have:(18446744073709551616:Int) ^ n=(18446744073709551616:Int) ^ i*(18446744073709551616:Int) ^ (n - i):=by rw [<- Int.pow_add,es]
  rw [this];simp only [Int.mul_assoc,Int.mul_left_comm]
 rw [e1,Int.mul_comm ((18446744073709551616:Int) ^ n) carry];omega
theorem Tz.done{n:Nat}{a b:Int}{l:List Int}(h:Tz (ZN n a) (ZN n b) l n n):l=ZN n (a*b):=by
 obtain ⟨h1,h2,q,h3⟩:=h;refine Iu h1 h2 ?_;rw [U8 a (Nat.le_refl n),Xc,Xc] at h3;have e:YM l=a % (18446744073709551616:Int) ^ n*(b % (18446744073709551616:Int) ^ n)+(18446744073709551616:Int) ^ n*(-q):=by rw [Int.mul_neg];omega
 rw [TH (-q) e];exact (Int.mul_emod a b _).symm
end
end Go.Proofs.YthnenedoblncjaaGreatDoor