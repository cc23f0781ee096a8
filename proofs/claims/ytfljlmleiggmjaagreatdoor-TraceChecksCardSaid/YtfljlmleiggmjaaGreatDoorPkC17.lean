/- LimbMath DecMath -/
import Derived.RowKit
set_option maxRecDepth 1000000
set_option maxHeartbeats 8000000
namespace Go.Proofs.YtfljlmleiggmjaaGreatDoor
section
open Go.RowKit
theorem W64_pos (n:Nat):0<(18446744073709551616:Int) ^ n:=Int.pow_pos (by decide)
def valL:List Int→Int
 | []=>0
 | a::t=>a+18446744073709551616*valL t
def L64 (l:List Int):Prop:=∀ x∈l,0≤x∧x<18446744073709551616
theorem L64.tail {a:Int} {t:List Int} (h:L64 (a::t)):L64 t:=fun x hx=>h x (by simp [hx])
theorem L64.head {a:Int} {t:List Int} (h:L64 (a::t)):0≤a∧a<18446744073709551616:=h a (by simp)
theorem valL_bd:∀ (l:List Int),L64 l→0≤valL l∧valL l<(18446744073709551616:Int) ^ l.length
 | [],_=>by simp [valL]
 | a::t,h=>by
   have h1:=valL_bd t h.tail
   have h2:=h.head
   simp only [valL,List.length_cons]
   rw [Int.pow_succ]
   have:valL t+1≤(18446744073709551616:Int) ^ t.length:=h1.2
   constructor
   · omega
   · omega
theorem valL_snoc (l:List Int) (b:Int):valL (l++[b])=valL l+b*(18446744073709551616:Int) ^ l.length:=by
 induction l with
 | nil=>simp [valL]
 | cons a l ih =>
   simp only [List.cons_append,valL,ih,List.length_cons]
   rw [Int.pow_succ,Int.mul_add,Int.add_assoc]
   congr 2
   rw [Int.mul_comm,Int.mul_assoc]
theorem valL_append (l m:List Int):valL (l++m)=valL l+(18446744073709551616:Int) ^ l.length*valL m:=by
 induction l with
 | nil=>simp [valL]
 | cons a l ih =>
   simp only [List.cons_append,valL,ih,List.length_cons]
   rw [Int.pow_succ,Int.mul_add,Int.add_assoc]
   congr 2
   rw [← Int.mul_assoc,Int.mul_comm 18446744073709551616]
theorem valL_set:∀ (l:List Int) (k:Nat) (x v:Int),l[k]?=some x→valL (l.set k v)=valL l+(v - x)*(18446744073709551616:Int) ^ k
 | [],_,_,_,h=>by simp at h
 | a::t,0,x,v,h=>by
   have:a=x:=by simpa using h
   subst this
   simp only [List.set_cons_zero,valL,Int.pow_zero]
   omega
 | a::t,k+1,x,v,h=>by
   have ih:=valL_set t k x v (by simpa using h)
   simp only [List.set_cons_succ,valL,ih,Int.pow_succ]
   rw [Int.mul_add,Int.add_assoc]
   congr 2
   rw [← Int.mul_assoc,Int.mul_comm 18446744073709551616,Int.mul_assoc,Int.mul_comm 18446744073709551616]
def lim (v:Int) (i:Nat):Int:=v / (18446744073709551616:Int) ^ i % 18446744073709551616
def lims (n:Nat) (v:Int):List Int:=(List.range n).map (lim v)
theorem lims_length (n:Nat) (v:Int):(lims n v).length=n:=by simp [lims]
theorem lims_get {n i:Nat} (v:Int) (h:i<n):(lims n v)[i]?=some (lim v i):=by simp [lims,h]
theorem lims_succ (n:Nat) (v:Int):lims (n+1) v=lims n v++[lim v n]:=by simp [lims,List.range_succ]
theorem lim_bd (v:Int) (i:Nat):0≤lim v i∧lim v i<18446744073709551616:=⟨Int.emod_nonneg _ (by decide),Int.emod_lt_of_pos _ (by decide)⟩
theorem lims_L64 (n:Nat) (v:Int):L64 (lims n v):=fun x hx=>by
 obtain ⟨i,_,rfl⟩:=List.mem_map.1 hx
 exact lim_bd v i
theorem lims_take {m n:Nat} (v:Int) (h:n≤m):(lims m v).take n=lims n v:=by
 unfold lims
 rw [← List.map_take,List.take_range,Nat.min_eq_left h]
theorem valL_lims (n:Nat) (v:Int):valL (lims n v)=v % (18446744073709551616:Int) ^ n:=by
 induction n with
 | zero=>simp [lims,valL]
 | succ n ih =>
   rw [lims_succ,valL_snoc,ih,lims_length]
   unfold lim
   have h1:=Int.emod_add_mul_ediv v ((18446744073709551616:Int) ^ n)
   have h2:=Int.emod_add_mul_ediv v ((18446744073709551616:Int) ^ (n+1))
   have h3:=Int.emod_add_mul_ediv (v / (18446744073709551616:Int) ^ n) 18446744073709551616
   have e:(18446744073709551616:Int) ^ (n+1)=(18446744073709551616:Int) ^ n*18446744073709551616:=Int.pow_succ 18446744073709551616 n
   have e3:v / (18446744073709551616:Int) ^ n / 18446744073709551616=v / (18446744073709551616:Int) ^ (n+1):=by rw [e,Int.ediv_ediv_of_nonneg (Int.le_of_lt (W64_pos n))]
   rw [e3] at h3
   have h4:(18446744073709551616:Int) ^ n*(v / (18446744073709551616:Int) ^ n % 18446744073709551616+18446744073709551616*(v / (18446744073709551616:Int) ^ (n+1)))=(18446744073709551616:Int) ^ n*(v / (18446744073709551616:Int) ^ n):=by rw [h3]
   rw [Int.mul_add,← Int.mul_assoc,← e] at h4
   rw [Int.mul_comm (v / (18446744073709551616:Int) ^ n % 18446744073709551616)]
   omega
theorem valL_inj:∀ (a b:List Int),L64 a→L64 b→a.length=b.length→valL a=valL b→a=b
 | [],[],_,_,_,_=>rfl
 | [],_::_,_,_,h,_=>by simp at h
 | _::_,[],_,_,h,_=>by simp at h
 | x::a,y::b,ha,hb,hl,he=>by
   simp only [valL] at he
   have h1:=ha.head
   have h2:=hb.head
   have hxy:x=y:=by omega
   have:valL a=valL b:=by omega
   rw [hxy,valL_inj a b ha.tail hb.tail (by simpa using hl) this]
theorem lims_of {l:List Int} {n:Nat} {v:Int} (hl:l.length=n) (h:L64 l) (hv:valL l % (18446744073709551616:Int) ^ n=v % (18446744073709551616:Int) ^ n):l=lims n v:=by
 refine valL_inj _ _ h (lims_L64 _ _) (by rw [hl,lims_length]) ?_
 rw [valL_lims,← hv]
 have:=valL_bd l h
 rw [hl] at this
 exact (Int.emod_eq_of_lt this.1 this.2).symm
theorem emod_add_mul {a b m:Int} (k:Int) (h:a=b+m*k):a % m=b % m:=by rw [h,Int.add_mul_emod_self_left]
def Fits (n:Nat) (v:Int):Prop:=-((18446744073709551616:Int) ^ n)≤2*v∧2*v<(18446744073709551616:Int) ^ n
theorem lim_high {m i:Nat} {v:Int} (hf:Fits m v) (hi:m≤i):lim v i=if v<0 then 18446744073709551616 - 1 else 0:=by
 unfold lim
 obtain ⟨h1,h2⟩:=hf
 have hp:(18446744073709551616:Int) ^ m≤(18446744073709551616:Int) ^ i:=by
  obtain ⟨d,rfl⟩:=Nat.exists_eq_add_of_le hi
  rw [Int.pow_add]
  have:=W64_pos d
  have:=W64_pos m
  have:=Int.mul_le_mul_of_nonneg_left (show (1:Int)≤(18446744073709551616:Int) ^ d by omega) (Int.le_of_lt (W64_pos m))
  omega
 have hpos:=W64_pos m
 by_cases hv:v<0
 · rw [if_pos hv]
   have:v / (18446744073709551616:Int) ^ i=-1:=by
    have h3:=Int.emod_add_mul_ediv v ((18446744073709551616:Int) ^ i)
    have h4:=Int.emod_nonneg v (show (18446744073709551616:Int) ^ i≠0 by have:=W64_pos i;omega)
    have h5:=Int.emod_lt_of_pos v (W64_pos i)
    have hq0:v / (18446744073709551616:Int) ^ i<0:=Int.ediv_neg_of_neg_of_pos hv (W64_pos i)
    have hq1:-1≤v / (18446744073709551616:Int) ^ i:=by
     rw [Int.le_ediv_iff_mul_le (W64_pos i)]
     omega
    omega
   rw [this];rfl
 · rw [if_neg hv,Int.ediv_eq_zero_of_lt (by omega) (by omega)];rfl
theorem lim_top {m:Nat} {v:Int} (hf:Fits (m+1) v):(9223372036854775808≤lim v m ↔ v<0):=by
 obtain ⟨h1,h2⟩:=hf
 have e:(18446744073709551616:Int) ^ (m+1)=(18446744073709551616:Int) ^ m*18446744073709551616:=Int.pow_succ 18446744073709551616 m
 rw [e] at h1 h2
 have hpos:=W64_pos m
 unfold lim
 have hq2:v / (18446744073709551616:Int) ^ m<9223372036854775808:=by
  rw [Int.ediv_lt_iff_lt_mul hpos];omega
 have hq1:-9223372036854775808≤v / (18446744073709551616:Int) ^ m:=by
  rw [Int.le_ediv_iff_mul_le hpos];omega
 have hs:v / (18446744073709551616:Int) ^ m<0 ↔ v<0:=by
  constructor
  · intro h
    refine Int.not_le.1 fun h0=>?_
    have:=Int.ediv_nonneg h0 (Int.le_of_lt hpos);omega
  · intro h;exact Int.ediv_neg_of_neg_of_pos h hpos
 rw [← hs]
 show 9223372036854775808≤v / (18446744073709551616:Int) ^ m % 18446744073709551616 ↔ _
 omega
theorem lims_extend {m n:Nat} {v:Int} (hf:Fits m v) (h:m≤n):lims n v=lims m v++List.replicate (n - m) (if v<0 then 18446744073709551616 - 1 else 0):=by
 obtain ⟨d,rfl⟩:=Nat.exists_eq_add_of_le h
 rw [Nat.add_sub_cancel_left]
 induction d with
 | zero=>simp
 | succ d ih =>
   rw [← Nat.add_assoc,lims_succ,ih (by omega),lim_high hf (by omega),List.replicate_succ',List.append_assoc]
theorem Fits.mono {m n:Nat} {v:Int} (h:Fits m v) (hn:m≤n):Fits n v:=by
 obtain ⟨d,rfl⟩:=Nat.exists_eq_add_of_le hn
 have h1:=W64_pos d
 have h2:=W64_pos m
 have:(18446744073709551616:Int) ^ m≤(18446744073709551616:Int) ^ (m+d):=by
  rw [Int.pow_add]
  have:=Int.mul_le_mul_of_nonneg_left (show (1:Int)≤(18446744073709551616:Int) ^ d by omega) (Int.le_of_lt (W64_pos m))
  omega
 exact ⟨by have:=h.1;omega,by have:=h.2;omega⟩
theorem lims_zero {n:Nat} {v:Int} (hf:Fits n v):(∀ i,i<n→lim v i=0) ↔ v=0:=by
 constructor
 · intro h
   have e:lims n v=lims n 0:=by
    unfold lims
    refine List.map_congr_left fun i hi=>?_
    rw [h i (List.mem_range.1 hi)]
    unfold lim;simp
   have h1:=valL_lims n v
   rw [e,valL_lims,Int.zero_emod] at h1
   obtain ⟨f1,f2⟩:=hf
   have hp:=W64_pos n
   have h3:=Int.emod_add_mul_ediv v ((18446744073709551616:Int) ^ n)
   rw [← h1,Int.zero_add] at h3
   have hq:v / (18446744073709551616:Int) ^ n=0:=by
    have hq1:v / (18446744073709551616:Int) ^ n<1:=by rw [Int.ediv_lt_iff_lt_mul hp];omega
    have hq2:-1<v / (18446744073709551616:Int) ^ n:=by
     refine Int.not_le.1 fun h=>?_
     have:(18446744073709551616:Int) ^ n*(v / (18446744073709551616:Int) ^ n)≤(18446744073709551616:Int) ^ n*(-1):=Int.mul_le_mul_of_nonneg_left h (Int.le_of_lt hp)
     omega
    omega
   rw [hq,Int.mul_zero] at h3
   exact h3.symm
 · rintro rfl i _
   unfold lim;simp
def bor (x y b:Int):Int:=if x<y+b then 1 else 0
theorem bor_bd (x y b:Int):0≤bor x y b∧bor x y b≤1:=by unfold bor;split <;> omega
theorem L64.snoc {l:List Int} {z:Int} (h:L64 l) (h0:0≤z) (h1:z<18446744073709551616):L64 (l++[z]):=fun x hx=>by
 rcases List.mem_append.1 hx with h2 | h2
 · exact h x h2
 · rw [List.mem_singleton.1 h2];exact ⟨h0,h1⟩
theorem L64.set {l:List Int} {z:Int} (h:L64 l) (k:Nat) (h0:0≤z) (h1:z<18446744073709551616):L64 (l.set k z):=fun x hx=>by
 rcases List.mem_or_eq_of_mem_set hx with h2 | h2
 · exact h x h2
 · rw [h2];exact ⟨h0,h1⟩
theorem valL_take_succ {l:List Int} {k:Nat} {x:Int} (h:l[k]?=some x):valL (l.take (k+1))=valL (l.take k)+x*(18446744073709551616:Int) ^ k:=by
 have hk:k<l.length:=(List.getElem?_eq_some_iff.1 h).1
 rw [List.take_add_one,h]
 show valL (l.take k++[x])=_
 rw [valL_snoc,List.length_take,Nat.min_eq_left (by omega)]
structure SubSt (x y done:List Int) (k:Nat) (b:Int):Prop where
 len:done.length=k
 u:L64 done
 b0:0≤b
 b1:b≤1
 eq:valL done - b*(18446744073709551616:Int) ^ k=valL (x.take k) - valL (y.take k)
theorem SubSt.start (x y:List Int):SubSt x y [] 0 0:=⟨rfl,fun _ h=>by simp at h,by omega,by omega,by simp [valL]⟩
theorem SubSt.step {x y done:List Int} {k:Nat} {b a c:Int} (h:SubSt x y done k b) (hx:x[k]?=some a) (hy:y[k]?=some c) (a0:0≤a) (a1:a<18446744073709551616) (c0:0≤c) (c1:c<18446744073709551616) :
 SubSt x y (done++[(a - c - b) % 18446744073709551616]) (k+1) (bor a c b):=by
 obtain ⟨h1,h2,h3,h4,h5⟩:=h
 have hb:=bor_bd a c b
 refine ⟨by simp [h1],h2.snoc (by omega) (by omega),hb.1,hb.2,?_⟩
 have hz:(a - c - b) % 18446744073709551616=a - c - b+bor a c b*18446744073709551616:=by unfold bor;split <;> omega
 rw [valL_snoc,h1,valL_take_succ hx,valL_take_succ hy,hz,Int.pow_succ,Int.add_mul,Int.sub_mul,Int.sub_mul]
 have e:bor a c b*18446744073709551616*(18446744073709551616:Int) ^ k=bor a c b*((18446744073709551616:Int) ^ k*18446744073709551616):=by rw [Int.mul_assoc,Int.mul_comm 18446744073709551616]
 rw [e]
 omega
theorem SubSt.done {n:Nat} {a c b:Int} {l:List Int} (h:SubSt (lims n a) (lims n c) l n b):l=lims n (a - c):=by
 obtain ⟨h1,h2,_,_,h5⟩:=h
 refine lims_of h1 h2 ?_
 rw [lims_take a (Nat.le_refl n),lims_take c (Nat.le_refl n),valL_lims,valL_lims] at h5
 have e:valL l=a % (18446744073709551616:Int) ^ n - c % (18446744073709551616:Int) ^ n+(18446744073709551616:Int) ^ n*b:=by rw [Int.mul_comm];omega
 rw [emod_add_mul b e]
 exact (Int.sub_emod a c _).symm
structure AddSt (x y done:List Int) (k:Nat) (b:Int):Prop where
 len:done.length=k
 u:L64 done
 b0:0≤b
 b1:b≤1
 eq:valL done+b*(18446744073709551616:Int) ^ k=valL (x.take k)+valL (y.take k)
theorem AddSt.start (x y:List Int):AddSt x y [] 0 0:=⟨rfl,fun _ h=>by simp at h,by omega,by omega,by simp [valL]⟩
theorem AddSt.step {x y done:List Int} {k:Nat} {b a c:Int} (h:AddSt x y done k b) (hx:x[k]?=some a) (hy:y[k]?=some c) (a0:0≤a) (a1:a<18446744073709551616) (c0:0≤c) (c1:c<18446744073709551616) :
 AddSt x y (done++[(a+c+b) % 18446744073709551616]) (k+1) ((a+c+b) / 18446744073709551616):=by
 obtain ⟨h1,h2,h3,h4,h5⟩:=h
 refine ⟨by simp [h1],h2.snoc (by omega) (by omega),by omega,by omega,?_⟩
 have hz:(a+c+b) % 18446744073709551616=a+c+b - (a+c+b) / 18446744073709551616*18446744073709551616:=by omega
 rw [valL_snoc,h1,valL_take_succ hx,valL_take_succ hy,hz,Int.pow_succ,Int.sub_mul,Int.add_mul,Int.add_mul]
 have e:(a+c+b) / 18446744073709551616*18446744073709551616*(18446744073709551616:Int) ^ k=(a+c+b) / 18446744073709551616*((18446744073709551616:Int) ^ k*18446744073709551616):=by rw [Int.mul_assoc,Int.mul_comm 18446744073709551616]
 rw [e]
 omega
theorem AddSt.done {n:Nat} {a c b:Int} {l:List Int} (h:AddSt (lims n a) (lims n c) l n b):l=lims n (a+c):=by
 obtain ⟨h1,h2,_,_,h5⟩:=h
 refine lims_of h1 h2 ?_
 rw [lims_take a (Nat.le_refl n),lims_take c (Nat.le_refl n),valL_lims,valL_lims] at h5
 have e:valL l=a % (18446744073709551616:Int) ^ n+c % (18446744073709551616:Int) ^ n+(18446744073709551616:Int) ^ n*(-b):=by rw [Int.mul_neg,Int.mul_comm];omega
 rw [emod_add_mul (-b) e]
 exact (Int.add_emod a c _).symm
structure MulIn (l0 l:List Int) (i j n:Nat) (xi:Int) (y:List Int) (carry:Int):Prop where
 len:l.length=n
 u:L64 l
 c0:0≤carry
 c1:carry<18446744073709551616
 eq:valL l+carry*(18446744073709551616:Int) ^ (i+j)=valL l0+xi*(18446744073709551616:Int) ^ i*valL (y.take j)
theorem MulIn.start {l0:List Int} {n:Nat} (i:Nat) (xi:Int) (y:List Int) (h:l0.length=n) (hu:L64 l0):MulIn l0 l0 i 0 n xi y 0:=⟨h,hu,by omega,by omega,by simp [valL]⟩
theorem mul_bd {a b c d:Int} (a0:0≤a) (a1:a<18446744073709551616) (b0:0≤b) (b1:b<18446744073709551616) (c0:0≤c) (c1:c<18446744073709551616) (d0:0≤d) (d1:d<18446744073709551616):0≤a*b+c+d∧a*b+c+d<18446744073709551616*18446744073709551616:=by
 have h1:=Int.mul_nonneg a0 b0
 have h2:=Int.mul_le_mul (show a≤18446744073709551615 by omega) (show b≤18446744073709551615 by omega) b0 (by decide)
 omega
theorem MulIn.step {l0 l y:List Int} {i j n:Nat} {xi carry o yj:Int} (h:MulIn l0 l i j n xi y carry) (ho:l[i+j]?=some o) (hy:y[j]?=some yj) (x0:0≤xi) (x1:xi<18446744073709551616) (y0:0≤yj) (y1:yj<18446744073709551616) :
 MulIn l0 (l.set (i+j) ((xi*yj+o+carry) % 18446744073709551616)) i (j+1) n xi y ((xi*yj+o+carry) / 18446744073709551616):=by
 obtain ⟨h1,h2,h3,h4,h5⟩:=h
 have hob:=h2 o (List.mem_of_getElem? ho)
 have hs:=mul_bd x0 x1 y0 y1 hob.1 hob.2 h3 h4
 refine ⟨by simp [h1],h2.set _ (by omega) (by omega),by omega,by omega,?_⟩
 generalize hs':xi*yj+o+carry=s at *
 rw [valL_set _ _ _ _ ho,valL_take_succ hy,← Nat.add_assoc,Int.pow_succ,Int.mul_add,Int.sub_mul]
 have e1:s / 18446744073709551616*((18446744073709551616:Int) ^ (i+j)*18446744073709551616)=(s - s % 18446744073709551616)*(18446744073709551616:Int) ^ (i+j):=by
  rw [Int.mul_comm ((18446744073709551616:Int) ^ (i+j)),← Int.mul_assoc]
  congr 1
  omega
 have e2:xi*(18446744073709551616:Int) ^ i*(yj*(18446744073709551616:Int) ^ j)=xi*yj*(18446744073709551616:Int) ^ (i+j):=by
  rw [Int.pow_add];simp only [Int.mul_assoc,Int.mul_left_comm]
 have e3:s*(18446744073709551616:Int) ^ (i+j)=xi*yj*(18446744073709551616:Int) ^ (i+j)+o*(18446744073709551616:Int) ^ (i+j)+carry*(18446744073709551616:Int) ^ (i+j):=by rw [← hs',Int.add_mul,Int.add_mul]
 rw [e1,e2,Int.sub_mul]
 omega
structure MulOut (x y l:List Int) (i n:Nat):Prop where
 len:l.length=n
 u:L64 l
 eq:∃ q,valL l=valL (x.take i)*valL y - (18446744073709551616:Int) ^ n*q
theorem MulOut.start (x y:List Int) (n:Nat):MulOut x y (List.replicate n 0) 0 n:=by
 refine ⟨by simp,fun z hz=>by rw [List.eq_of_mem_replicate hz];decide,0,?_⟩
 have:∀ n,valL (List.replicate n 0)=0:=fun n=>by
  induction n with
  | zero=>rfl
  | succ n ih=>rw [List.replicate_succ,valL,ih];rfl
 simp [this,valL]
theorem MulOut.step {x y l l':List Int} {i n:Nat} {xi carry:Int} (h:MulOut x y l i n) (hx:x[i]?=some xi) (hy:y.length=n) (hi:i≤n) (hin:MulIn l l' i (n - i) n xi y carry):MulOut x y l' (i+1) n:=by
 obtain ⟨q,hq⟩:=h.eq
 refine ⟨hin.len,hin.u,q+carry+xi*valL (y.drop (n - i)),?_⟩
 have e:=hin.eq
 have es:i+(n - i)=n:=by omega
 rw [es,hq] at e
 have hv:valL y=valL (y.take (n - i))+(18446744073709551616:Int) ^ (n - i)*valL (y.drop (n - i)):=by
  have h1:=valL_append (y.take (n - i)) (y.drop (n - i))
  rw [List.take_append_drop,List.length_take,Nat.min_eq_left (by omega)] at h1
  exact h1
 rw [valL_take_succ hx,Int.add_mul,Int.mul_add,Int.mul_add]
 have e1:xi*(18446744073709551616:Int) ^ i*valL y=xi*(18446744073709551616:Int) ^ i*valL (y.take (n - i))+(18446744073709551616:Int) ^ n*(xi*valL (y.drop (n - i))):=by
  conv=>lhs;rw [hv]
  rw [Int.mul_add]
  congr 1
  have:(18446744073709551616:Int) ^ n=(18446744073709551616:Int) ^ i*(18446744073709551616:Int) ^ (n - i):=by rw [← Int.pow_add,es]
  rw [this]
  simp only [Int.mul_assoc,Int.mul_left_comm]
 rw [e1,Int.mul_comm ((18446744073709551616:Int) ^ n) carry]
 omega
theorem MulOut.done {n:Nat} {a b:Int} {l:List Int} (h:MulOut (lims n a) (lims n b) l n n):l=lims n (a*b):=by
 obtain ⟨h1,h2,q,h3⟩:=h
 refine lims_of h1 h2 ?_
 rw [lims_take a (Nat.le_refl n),valL_lims,valL_lims] at h3
 have e:valL l=a % (18446744073709551616:Int) ^ n*(b % (18446744073709551616:Int) ^ n)+(18446744073709551616:Int) ^ n*(-q):=by rw [Int.mul_neg];omega
 rw [emod_add_mul (-q) e]
 exact (Int.mul_emod a b _).symm
end
section
def dr (n:Nat):List Nat:=if n<10 then [n] else n % 10::dr (n / 10)
 termination_by n
 decreasing_by omega
theorem dr_small {n:Nat} (h:n<10):dr n=[n]:=by rw [dr,if_pos h]
theorem dr_big {n:Nat} (h:10≤n):dr n=n % 10::dr (n / 10):=by rw [dr,if_neg (by omega)]
theorem dr_len:∀ {k n:Nat},n<10 ^ (k+1)→(dr n).length≤k+1
 | 0,n,h=>by rw [dr_small (by simpa using h)];simp
 | k+1,n,h=>by
   by_cases h1:n<10
   · rw [dr_small h1];simp
   · rw [dr_big (by omega),List.length_cons]
     have:=dr_len (k:=k) (n:=n / 10) (by rw [Nat.div_lt_iff_lt_mul (by omega),← Nat.pow_succ];exact h)
     omega
end
end Go.Proofs.YtfljlmleiggmjaaGreatDoor
