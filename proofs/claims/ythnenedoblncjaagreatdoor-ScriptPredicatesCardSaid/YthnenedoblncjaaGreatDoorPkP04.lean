/- LimbMath DecMath DecMul Knuth -/
import Derived.RowKit
set_option maxRecDepth 1000000
set_option maxHeartbeats 8000000
namespace Go.Proofs.YthnenedoblncjaaGreatDoor
section
open Go.RowKit
theorem W64_pos (n:Nat):0<(18446744073709551616:Int) ^ n:=Int.pow_pos (by decide)
def valL:List Int→Int
 | []=>0
 | a::t=>a+18446744073709551616*valL t
def L64 (l:List Int):Prop:=∀ x∈l,0≤x∧x<18446744073709551616
theorem L64.tail {a:Int} {t:List Int} (h:L64 (a::t)):L64 t:=fun x hx=>h x (by simp [hx])
theorem L64.head {a:Int} {t:List Int} (h:L64 (a::t)):0≤a∧a<18446744073709551616:=h a (by simp)
theorem valL_bd:∀ (l:List Int),L64 l→0≤valL l∧valL l<(18446744073709551616:Int) ^ l.length
 | [],_=>by simp [valL]
 | a::t,h=>by
   have h1:=valL_bd t h.tail
   have h2:=h.head
   simp only [valL,List.length_cons]
   rw [Int.pow_succ]
   have:valL t+1≤(18446744073709551616:Int) ^ t.length:=h1.2
   constructor
   · omega
   · omega
theorem valL_snoc (l:List Int) (b:Int):valL (l++[b])=valL l+b*(18446744073709551616:Int) ^ l.length:=by
 induction l with
 | nil=>simp [valL]
 | cons a l ih =>
   simp only [List.cons_append,valL,ih,List.length_cons]
   rw [Int.pow_succ,Int.mul_add,Int.add_assoc]
   congr 2
   rw [Int.mul_comm,Int.mul_assoc]
theorem valL_append (l m:List Int):valL (l++m)=valL l+(18446744073709551616:Int) ^ l.length*valL m:=by
 induction l with
 | nil=>simp [valL]
 | cons a l ih =>
   simp only [List.cons_append,valL,ih,List.length_cons]
   rw [Int.pow_succ,Int.mul_add,Int.add_assoc]
   congr 2
   rw [← Int.mul_assoc,Int.mul_comm 18446744073709551616]
theorem valL_set:∀ (l:List Int) (k:Nat) (x v:Int),l[k]?=some x→valL (l.set k v)=valL l+(v - x)*(18446744073709551616:Int) ^ k
 | [],_,_,_,h=>by simp at h
 | a::t,0,x,v,h=>by
   have:a=x:=by simpa using h
   subst this
   simp only [List.set_cons_zero,valL,Int.pow_zero]
   omega
 | a::t,k+1,x,v,h=>by
   have ih:=valL_set t k x v (by simpa using h)
   simp only [List.set_cons_succ,valL,ih,Int.pow_succ]
   rw [Int.mul_add,Int.add_assoc]
   congr 2
   rw [← Int.mul_assoc,Int.mul_comm 18446744073709551616,Int.mul_assoc,Int.mul_comm 18446744073709551616]
def lim (v:Int) (i:Nat):Int:=v / (18446744073709551616:Int) ^ i % 18446744073709551616
def lims (n:Nat) (v:Int):List Int:=(List.range n).map (lim v)
theorem lims_length (n:Nat) (v:Int):(lims n v).length=n:=by simp [lims]
theorem lims_get {n i:Nat} (v:Int) (h:i<n):(lims n v)[i]?=some (lim v i):=by simp [lims,h]
theorem lims_succ (n:Nat) (v:Int):lims (n+1) v=lims n v++[lim v n]:=by simp [lims,List.range_succ]
theorem lim_bd (v:Int) (i:Nat):0≤lim v i∧lim v i<18446744073709551616:=⟨Int.emod_nonneg _ (by decide),Int.emod_lt_of_pos _ (by decide)⟩
theorem lims_L64 (n:Nat) (v:Int):L64 (lims n v):=fun x hx=>by
 obtain ⟨i,_,rfl⟩:=List.mem_map.1 hx
 exact lim_bd v i
theorem lims_take {m n:Nat} (v:Int) (h:n≤m):(lims m v).take n=lims n v:=by
 unfold lims
 rw [← List.map_take,List.take_range,Nat.min_eq_left h]
theorem valL_lims (n:Nat) (v:Int):valL (lims n v)=v % (18446744073709551616:Int) ^ n:=by
 induction n with
 | zero=>simp [lims,valL]
 | succ n ih =>
   rw [lims_succ,valL_snoc,ih,lims_length]
   unfold lim
   have h1:=Int.emod_add_mul_ediv v ((18446744073709551616:Int) ^ n)
   have h2:=Int.emod_add_mul_ediv v ((18446744073709551616:Int) ^ (n+1))
   have h3:=Int.emod_add_mul_ediv (v / (18446744073709551616:Int) ^ n) 18446744073709551616
   have e:(18446744073709551616:Int) ^ (n+1)=(18446744073709551616:Int) ^ n*18446744073709551616:=Int.pow_succ 18446744073709551616 n
   have e3:v / (18446744073709551616:Int) ^ n / 18446744073709551616=v / (18446744073709551616:Int) ^ (n+1):=by rw [e,Int.ediv_ediv_of_nonneg (Int.le_of_lt (W64_pos n))]
   rw [e3] at h3
   have h4:(18446744073709551616:Int) ^ n*(v / (18446744073709551616:Int) ^ n % 18446744073709551616+18446744073709551616*(v / (18446744073709551616:Int) ^ (n+1)))=(18446744073709551616:Int) ^ n*(v / (18446744073709551616:Int) ^ n):=by rw [h3]
   rw [Int.mul_add,← Int.mul_assoc,← e] at h4
   rw [Int.mul_comm (v / (18446744073709551616:Int) ^ n % 18446744073709551616)]
   omega
theorem valL_inj:∀ (a b:List Int),L64 a→L64 b→a.length=b.length→valL a=valL b→a=b
 | [],[],_,_,_,_=>rfl
 | [],_::_,_,_,h,_=>by simp at h
 | _::_,[],_,_,h,_=>by simp at h
 | x::a,y::b,ha,hb,hl,he=>by
   simp only [valL] at he
   have h1:=ha.head
   have h2:=hb.head
   have hxy:x=y:=by omega
   have:valL a=valL b:=by omega
   rw [hxy,valL_inj a b ha.tail hb.tail (by simpa using hl) this]
theorem lims_of {l:List Int} {n:Nat} {v:Int} (hl:l.length=n) (h:L64 l) (hv:valL l % (18446744073709551616:Int) ^ n=v % (18446744073709551616:Int) ^ n):l=lims n v:=by
 refine valL_inj _ _ h (lims_L64 _ _) (by rw [hl,lims_length]) ?_
 rw [valL_lims,← hv]
 have:=valL_bd l h
 rw [hl] at this
 exact (Int.emod_eq_of_lt this.1 this.2).symm
theorem lims_eq {n:Nat} {v v':Int} (h:v % (18446744073709551616:Int) ^ n=v' % (18446744073709551616:Int) ^ n):lims n v=lims n v' :=
 lims_of (lims_length _ _) (lims_L64 _ _) (by rw [valL_lims,Int.emod_emod_of_dvd _ (Int.dvd_refl _)];exact h)
theorem emod_add_mul {a b m:Int} (k:Int) (h:a=b+m*k):a % m=b % m:=by rw [h,Int.add_mul_emod_self_left]
def Fits (n:Nat) (v:Int):Prop:=-((18446744073709551616:Int) ^ n)≤2*v∧2*v<(18446744073709551616:Int) ^ n
theorem lim_high {m i:Nat} {v:Int} (hf:Fits m v) (hi:m≤i):lim v i=if v<0 then 18446744073709551616 - 1 else 0:=by
 unfold lim
 obtain ⟨h1,h2⟩:=hf
 have hp:(18446744073709551616:Int) ^ m≤(18446744073709551616:Int) ^ i:=by
  obtain ⟨d,rfl⟩:=Nat.exists_eq_add_of_le hi
  rw [Int.pow_add]
  have:=W64_pos d
  have:=W64_pos m
  have:=Int.mul_le_mul_of_nonneg_left (show (1:Int)≤(18446744073709551616:Int) ^ d by omega) (Int.le_of_lt (W64_pos m))
  omega
 have hpos:=W64_pos m
 by_cases hv:v<0
 · rw [if_pos hv]
   have:v / (18446744073709551616:Int) ^ i=-1:=by
    have h3:=Int.emod_add_mul_ediv v ((18446744073709551616:Int) ^ i)
    have h4:=Int.emod_nonneg v (show (18446744073709551616:Int) ^ i≠0 by have:=W64_pos i;omega)
    have h5:=Int.emod_lt_of_pos v (W64_pos i)
    have hq0:v / (18446744073709551616:Int) ^ i<0:=Int.ediv_neg_of_neg_of_pos hv (W64_pos i)
    have hq1:-1≤v / (18446744073709551616:Int) ^ i:=by
     rw [Int.le_ediv_iff_mul_le (W64_pos i)]
     omega
    omega
   rw [this];rfl
 · rw [if_neg hv,Int.ediv_eq_zero_of_lt (by omega) (by omega)];rfl
theorem lim_top {m:Nat} {v:Int} (hf:Fits (m+1) v):(9223372036854775808≤lim v m ↔ v<0):=by
 obtain ⟨h1,h2⟩:=hf
 have e:(18446744073709551616:Int) ^ (m+1)=(18446744073709551616:Int) ^ m*18446744073709551616:=Int.pow_succ 18446744073709551616 m
 rw [e] at h1 h2
 have hpos:=W64_pos m
 unfold lim
 have hq2:v / (18446744073709551616:Int) ^ m<9223372036854775808:=by
  rw [Int.ediv_lt_iff_lt_mul hpos];omega
 have hq1:-9223372036854775808≤v / (18446744073709551616:Int) ^ m:=by
  rw [Int.le_ediv_iff_mul_le hpos];omega
 have hs:v / (18446744073709551616:Int) ^ m<0 ↔ v<0:=by
  constructor
  · intro h
    refine Int.not_le.1 fun h0=>?_
    have:=Int.ediv_nonneg h0 (Int.le_of_lt hpos);omega
  · intro h;exact Int.ediv_neg_of_neg_of_pos h hpos
 rw [← hs]
 show 9223372036854775808≤v / (18446744073709551616:Int) ^ m % 18446744073709551616 ↔ _
 omega
theorem lims_extend {m n:Nat} {v:Int} (hf:Fits m v) (h:m≤n):lims n v=lims m v++List.replicate (n - m) (if v<0 then 18446744073709551616 - 1 else 0):=by
 obtain ⟨d,rfl⟩:=Nat.exists_eq_add_of_le h
 rw [Nat.add_sub_cancel_left]
 induction d with
 | zero=>simp
 | succ d ih =>
   rw [← Nat.add_assoc,lims_succ,ih (by omega),lim_high hf (by omega),List.replicate_succ',List.append_assoc]
theorem Fits.mono {m n:Nat} {v:Int} (h:Fits m v) (hn:m≤n):Fits n v:=by
 obtain ⟨d,rfl⟩:=Nat.exists_eq_add_of_le hn
 have h1:=W64_pos d
 have h2:=W64_pos m
 have:(18446744073709551616:Int) ^ m≤(18446744073709551616:Int) ^ (m+d):=by
  rw [Int.pow_add]
  have:=Int.mul_le_mul_of_nonneg_left (show (1:Int)≤(18446744073709551616:Int) ^ d by omega) (Int.le_of_lt (W64_pos m))
  omega
 exact ⟨by have:=h.1;omega,by have:=h.2;omega⟩
theorem lims_zero {n:Nat} {v:Int} (hf:Fits n v):(∀ i,i<n→lim v i=0) ↔ v=0:=by
 constructor
 · intro h
   have e:lims n v=lims n 0:=by
    unfold lims
    refine List.map_congr_left fun i hi=>?_
    rw [h i (List.mem_range.1 hi)]
    unfold lim;simp
   have h1:=valL_lims n v
   rw [e,valL_lims,Int.zero_emod] at h1
   obtain ⟨f1,f2⟩:=hf
   have hp:=W64_pos n
   have h3:=Int.emod_add_mul_ediv v ((18446744073709551616:Int) ^ n)
   rw [← h1,Int.zero_add] at h3
   have hq:v / (18446744073709551616:Int) ^ n=0:=by
    have hq1:v / (18446744073709551616:Int) ^ n<1:=by rw [Int.ediv_lt_iff_lt_mul hp];omega
    have hq2:-1<v / (18446744073709551616:Int) ^ n:=by
     refine Int.not_le.1 fun h=>?_
     have:(18446744073709551616:Int) ^ n*(v / (18446744073709551616:Int) ^ n)≤(18446744073709551616:Int) ^ n*(-1):=Int.mul_le_mul_of_nonneg_left h (Int.le_of_lt hp)
     omega
    omega
   rw [hq,Int.mul_zero] at h3
   exact h3.symm
 · rintro rfl i _
   unfold lim;simp
def bor (x y b:Int):Int:=if x<y+b then 1 else 0
theorem bor_bd (x y b:Int):0≤bor x y b∧bor x y b≤1:=by unfold bor;split <;> omega
theorem L64.snoc {l:List Int} {z:Int} (h:L64 l) (h0:0≤z) (h1:z<18446744073709551616):L64 (l++[z]):=fun x hx=>by
 rcases List.mem_append.1 hx with h2 | h2
 · exact h x h2
 · rw [List.mem_singleton.1 h2];exact ⟨h0,h1⟩
theorem L64.set {l:List Int} {z:Int} (h:L64 l) (k:Nat) (h0:0≤z) (h1:z<18446744073709551616):L64 (l.set k z):=fun x hx=>by
 rcases List.mem_or_eq_of_mem_set hx with h2 | h2
 · exact h x h2
 · rw [h2];exact ⟨h0,h1⟩
theorem valL_take_succ {l:List Int} {k:Nat} {x:Int} (h:l[k]?=some x):valL (l.take (k+1))=valL (l.take k)+x*(18446744073709551616:Int) ^ k:=by
 have hk:k<l.length:=(List.getElem?_eq_some_iff.1 h).1
 rw [List.take_add_one,h]
 show valL (l.take k++[x])=_
 rw [valL_snoc,List.length_take,Nat.min_eq_left (by omega)]
structure SubSt (x y done:List Int) (k:Nat) (b:Int):Prop where
 len:done.length=k
 u:L64 done
 b0:0≤b
 b1:b≤1
 eq:valL done - b*(18446744073709551616:Int) ^ k=valL (x.take k) - valL (y.take k)
theorem SubSt.start (x y:List Int):SubSt x y [] 0 0:=⟨rfl,fun _ h=>by simp at h,by omega,by omega,by simp [valL]⟩
theorem SubSt.step {x y done:List Int} {k:Nat} {b a c:Int} (h:SubSt x y done k b) (hx:x[k]?=some a) (hy:y[k]?=some c) (a0:0≤a) (a1:a<18446744073709551616) (c0:0≤c) (c1:c<18446744073709551616) :
 SubSt x y (done++[(a - c - b) % 18446744073709551616]) (k+1) (bor a c b):=by
 obtain ⟨h1,h2,h3,h4,h5⟩:=h
 have hb:=bor_bd a c b
 refine ⟨by simp [h1],h2.snoc (by omega) (by omega),hb.1,hb.2,?_⟩
 have hz:(a - c - b) % 18446744073709551616=a - c - b+bor a c b*18446744073709551616:=by unfold bor;split <;> omega
 rw [valL_snoc,h1,valL_take_succ hx,valL_take_succ hy,hz,Int.pow_succ,Int.add_mul,Int.sub_mul,Int.sub_mul]
 have e:bor a c b*18446744073709551616*(18446744073709551616:Int) ^ k=bor a c b*((18446744073709551616:Int) ^ k*18446744073709551616):=by rw [Int.mul_assoc,Int.mul_comm 18446744073709551616]
 rw [e]
 omega
theorem SubSt.done {n:Nat} {a c b:Int} {l:List Int} (h:SubSt (lims n a) (lims n c) l n b):l=lims n (a - c):=by
 obtain ⟨h1,h2,_,_,h5⟩:=h
 refine lims_of h1 h2 ?_
 rw [lims_take a (Nat.le_refl n),lims_take c (Nat.le_refl n),valL_lims,valL_lims] at h5
 have e:valL l=a % (18446744073709551616:Int) ^ n - c % (18446744073709551616:Int) ^ n+(18446744073709551616:Int) ^ n*b:=by rw [Int.mul_comm];omega
 rw [emod_add_mul b e]
 exact (Int.sub_emod a c _).symm
structure AddSt (x y done:List Int) (k:Nat) (b:Int):Prop where
 len:done.length=k
 u:L64 done
 b0:0≤b
 b1:b≤1
 eq:valL done+b*(18446744073709551616:Int) ^ k=valL (x.take k)+valL (y.take k)
theorem AddSt.start (x y:List Int):AddSt x y [] 0 0:=⟨rfl,fun _ h=>by simp at h,by omega,by omega,by simp [valL]⟩
theorem AddSt.step {x y done:List Int} {k:Nat} {b a c:Int} (h:AddSt x y done k b) (hx:x[k]?=some a) (hy:y[k]?=some c) (a0:0≤a) (a1:a<18446744073709551616) (c0:0≤c) (c1:c<18446744073709551616) :
 AddSt x y (done++[(a+c+b) % 18446744073709551616]) (k+1) ((a+c+b) / 18446744073709551616):=by
 obtain ⟨h1,h2,h3,h4,h5⟩:=h
 refine ⟨by simp [h1],h2.snoc (by omega) (by omega),by omega,by omega,?_⟩
 have hz:(a+c+b) % 18446744073709551616=a+c+b - (a+c+b) / 18446744073709551616*18446744073709551616:=by omega
 rw [valL_snoc,h1,valL_take_succ hx,valL_take_succ hy,hz,Int.pow_succ,Int.sub_mul,Int.add_mul,Int.add_mul]
 have e:(a+c+b) / 18446744073709551616*18446744073709551616*(18446744073709551616:Int) ^ k=(a+c+b) / 18446744073709551616*((18446744073709551616:Int) ^ k*18446744073709551616):=by rw [Int.mul_assoc,Int.mul_comm 18446744073709551616]
 rw [e]
 omega
theorem AddSt.done {n:Nat} {a c b:Int} {l:List Int} (h:AddSt (lims n a) (lims n c) l n b):l=lims n (a+c):=by
 obtain ⟨h1,h2,_,_,h5⟩:=h
 refine lims_of h1 h2 ?_
 rw [lims_take a (Nat.le_refl n),lims_take c (Nat.le_refl n),valL_lims,valL_lims] at h5
 have e:valL l=a % (18446744073709551616:Int) ^ n+c % (18446744073709551616:Int) ^ n+(18446744073709551616:Int) ^ n*(-b):=by rw [Int.mul_neg,Int.mul_comm];omega
 rw [emod_add_mul (-b) e]
 exact (Int.add_emod a c _).symm
structure MulIn (l0 l:List Int) (i j n:Nat) (xi:Int) (y:List Int) (carry:Int):Prop where
 len:l.length=n
 u:L64 l
 c0:0≤carry
 c1:carry<18446744073709551616
 eq:valL l+carry*(18446744073709551616:Int) ^ (i+j)=valL l0+xi*(18446744073709551616:Int) ^ i*valL (y.take j)
theorem MulIn.start {l0:List Int} {n:Nat} (i:Nat) (xi:Int) (y:List Int) (h:l0.length=n) (hu:L64 l0):MulIn l0 l0 i 0 n xi y 0:=⟨h,hu,by omega,by omega,by simp [valL]⟩
theorem mul_bd {a b c d:Int} (a0:0≤a) (a1:a<18446744073709551616) (b0:0≤b) (b1:b<18446744073709551616) (c0:0≤c) (c1:c<18446744073709551616) (d0:0≤d) (d1:d<18446744073709551616):0≤a*b+c+d∧a*b+c+d<18446744073709551616*18446744073709551616:=by
 have h1:=Int.mul_nonneg a0 b0
 have h2:=Int.mul_le_mul (show a≤18446744073709551615 by omega) (show b≤18446744073709551615 by omega) b0 (by decide)
 omega
theorem MulIn.step {l0 l y:List Int} {i j n:Nat} {xi carry o yj:Int} (h:MulIn l0 l i j n xi y carry) (ho:l[i+j]?=some o) (hy:y[j]?=some yj) (x0:0≤xi) (x1:xi<18446744073709551616) (y0:0≤yj) (y1:yj<18446744073709551616) :
 MulIn l0 (l.set (i+j) ((xi*yj+o+carry) % 18446744073709551616)) i (j+1) n xi y ((xi*yj+o+carry) / 18446744073709551616):=by
 obtain ⟨h1,h2,h3,h4,h5⟩:=h
 have hob:=h2 o (List.mem_of_getElem? ho)
 have hs:=mul_bd x0 x1 y0 y1 hob.1 hob.2 h3 h4
 refine ⟨by simp [h1],h2.set _ (by omega) (by omega),by omega,by omega,?_⟩
 generalize hs':xi*yj+o+carry=s at *
 rw [valL_set _ _ _ _ ho,valL_take_succ hy,← Nat.add_assoc,Int.pow_succ,Int.mul_add,Int.sub_mul]
 have e1:s / 18446744073709551616*((18446744073709551616:Int) ^ (i+j)*18446744073709551616)=(s - s % 18446744073709551616)*(18446744073709551616:Int) ^ (i+j):=by
  rw [Int.mul_comm ((18446744073709551616:Int) ^ (i+j)),← Int.mul_assoc]
  congr 1
  omega
 have e2:xi*(18446744073709551616:Int) ^ i*(yj*(18446744073709551616:Int) ^ j)=xi*yj*(18446744073709551616:Int) ^ (i+j):=by
  rw [Int.pow_add];simp only [Int.mul_assoc,Int.mul_left_comm]
 have e3:s*(18446744073709551616:Int) ^ (i+j)=xi*yj*(18446744073709551616:Int) ^ (i+j)+o*(18446744073709551616:Int) ^ (i+j)+carry*(18446744073709551616:Int) ^ (i+j):=by rw [← hs',Int.add_mul,Int.add_mul]
 rw [e1,e2,Int.sub_mul]
 omega
structure MulOut (x y l:List Int) (i n:Nat):Prop where
 len:l.length=n
 u:L64 l
 eq:∃ q,valL l=valL (x.take i)*valL y - (18446744073709551616:Int) ^ n*q
theorem MulOut.start (x y:List Int) (n:Nat):MulOut x y (List.replicate n 0) 0 n:=by
 refine ⟨by simp,fun z hz=>by rw [List.eq_of_mem_replicate hz];decide,0,?_⟩
 have:∀ n,valL (List.replicate n 0)=0:=fun n=>by
  induction n with
  | zero=>rfl
  | succ n ih=>rw [List.replicate_succ,valL,ih];rfl
 simp [this,valL]
theorem MulOut.step {x y l l':List Int} {i n:Nat} {xi carry:Int} (h:MulOut x y l i n) (hx:x[i]?=some xi) (hy:y.length=n) (hi:i≤n) (hin:MulIn l l' i (n - i) n xi y carry):MulOut x y l' (i+1) n:=by
 obtain ⟨q,hq⟩:=h.eq
 refine ⟨hin.len,hin.u,q+carry+xi*valL (y.drop (n - i)),?_⟩
 have e:=hin.eq
 have es:i+(n - i)=n:=by omega
 rw [es,hq] at e
 have hv:valL y=valL (y.take (n - i))+(18446744073709551616:Int) ^ (n - i)*valL (y.drop (n - i)):=by
  have h1:=valL_append (y.take (n - i)) (y.drop (n - i))
  rw [List.take_append_drop,List.length_take,Nat.min_eq_left (by omega)] at h1
  exact h1
 rw [valL_take_succ hx,Int.add_mul,Int.mul_add,Int.mul_add]
 have e1:xi*(18446744073709551616:Int) ^ i*valL y=xi*(18446744073709551616:Int) ^ i*valL (y.take (n - i))+(18446744073709551616:Int) ^ n*(xi*valL (y.drop (n - i))):=by
  conv=>lhs;rw [hv]
  rw [Int.mul_add]
  congr 1
  have:(18446744073709551616:Int) ^ n=(18446744073709551616:Int) ^ i*(18446744073709551616:Int) ^ (n - i):=by rw [← Int.pow_add,es]
  rw [this]
  simp only [Int.mul_assoc,Int.mul_left_comm]
 rw [e1,Int.mul_comm ((18446744073709551616:Int) ^ n) carry]
 omega
theorem MulOut.done {n:Nat} {a b:Int} {l:List Int} (h:MulOut (lims n a) (lims n b) l n n):l=lims n (a*b):=by
 obtain ⟨h1,h2,q,h3⟩:=h
 refine lims_of h1 h2 ?_
 rw [lims_take a (Nat.le_refl n),valL_lims,valL_lims] at h3
 have e:valL l=a % (18446744073709551616:Int) ^ n*(b % (18446744073709551616:Int) ^ n)+(18446744073709551616:Int) ^ n*(-q):=by rw [Int.mul_neg];omega
 rw [emod_add_mul (-q) e]
 exact (Int.mul_emod a b _).symm
end
section
def dr (n:Nat):List Nat:=if n<10 then [n] else n % 10::dr (n / 10)
 termination_by n
 decreasing_by omega
theorem dr_small {n:Nat} (h:n<10):dr n=[n]:=by rw [dr,if_pos h]
theorem dr_big {n:Nat} (h:10≤n):dr n=n % 10::dr (n / 10):=by rw [dr,if_neg (by omega)]
def dv (x:Nat) (l:List Nat):Nat:=l.foldl (fun x d=>10*x+d) x
theorem dv_snoc (x:Nat) (l:List Nat) (d:Nat):dv x (l++[d])=10*dv x l+d:=by simp [dv]
theorem dr_len:∀ {k n:Nat},n<10 ^ (k+1)→(dr n).length≤k+1
 | 0,n,h=>by rw [dr_small (by simpa using h)];simp
 | k+1,n,h=>by
   by_cases h1:n<10
   · rw [dr_small h1];simp
   · rw [dr_big (by omega),List.length_cons]
     have:=dr_len (k:=k) (n:=n / 10) (by rw [Nat.div_lt_iff_lt_mul (by omega),← Nat.pow_succ];exact h)
     omega
theorem dr_ne (n:Nat):dr n≠[]:=by
 rw [dr];split <;> simp
def dvR:List Nat→Nat
 | []=>0
 | d::r=>10*dvR r+d
theorem dv_rev:∀ r:List Nat,dv 0 r.reverse=dvR r
 | []=>rfl
 | d::r=>by rw [List.reverse_cons,dv_snoc,dv_rev r,dvR]
theorem dv_dvR (l:List Nat):dv 0 l=dvR l.reverse:=by rw [← dv_rev,List.reverse_reverse]
theorem dvR_lt:∀ (r:List Nat),(∀ d∈r,d<10)→dvR r<10 ^ r.length
 | [],_=>by simp [dvR]
 | d::r,h=>by
   have h1:=dvR_lt r fun x hx=>h x (by simp [hx])
   have h2:=h d (by simp)
   rw [dvR,List.length_cons,Nat.pow_succ]
   omega
end
section
def cy10 (v d:Int) (j:Nat):Int:=(10*(v % (18446744073709551616:Int) ^ j)+d) / (18446744073709551616:Int) ^ j
theorem cy10_zero (v d:Int):cy10 v d 0=d:=by
 unfold cy10
 rw [Int.pow_zero,Int.emod_one,Int.ediv_one];omega
theorem cy10_bd (v:Int) {d:Int} (d0:0≤d) (d9:d≤9) (j:Nat):0≤cy10 v d j∧cy10 v d j≤9:=by
 unfold cy10
 have hp:=W64_pos j
 have h0:=Int.emod_nonneg v (show (18446744073709551616:Int) ^ j≠0 by omega)
 have h1:=Int.emod_lt_of_pos v hp
 generalize (18446744073709551616:Int) ^ j=B at *
 generalize v % B=r at *
 refine ⟨Int.ediv_nonneg (by omega) (by omega),?_⟩
 have:(10*r+d) / B<10:=Int.ediv_lt_of_lt_mul hp (by omega)
 omega
theorem mul10_step (v d:Int) (j:Nat):lim (10*v+d) j=(lim v j*10+cy10 v d j) % 18446744073709551616∧cy10 v d (j+1)=(lim v j*10+cy10 v d j) / 18446744073709551616:=by
 unfold cy10 lim
 have hp:=W64_pos j
 have e2:(18446744073709551616:Int) ^ (j+1)=(18446744073709551616:Int) ^ j*18446744073709551616:=Int.pow_succ _ _
 rw [e2]
 generalize (18446744073709551616:Int) ^ j=B at *
 clear e2
 have hr:=Int.emod_add_mul_ediv v B
 have r0:=Int.emod_nonneg v (show B≠0 by omega)
 have r1:=Int.emod_lt_of_pos v hp
 generalize v % B=r at *
 generalize v / B=q at *
 have hq:=Int.emod_add_mul_ediv q 18446744073709551616
 have l0:=Int.emod_nonneg q (show (18446744073709551616:Int)≠0 by decide)
 have l1:=Int.emod_lt_of_pos q (show (0:Int)<18446744073709551616 by decide)
 generalize q % 18446744073709551616=l at *
 generalize q / 18446744073709551616=H at *
 have hv:v=(r+B*l)+(B*18446744073709551616)*H:=by rw [← hr,← hq];grind
 have hm:v % (B*18446744073709551616)=r+B*l:=by
  rw [hv,Int.add_mul_emod_self_left]
  refine Int.emod_eq_of_lt ?_ ?_
  · have:=Int.mul_nonneg (Int.le_of_lt hp) l0
    omega
  · have:=Int.mul_le_mul_of_nonneg_left (show l+1≤18446744073709551616 by omega) (Int.le_of_lt hp)
    rw [Int.mul_add,Int.mul_one] at this
    omega
 have h10:10*(r+B*l)+d=(10*r+d)+B*(l*10):=by grind
 have hx:10*v+d=(10*r+d)+B*(10*q):=by rw [← hr];grind
 constructor
 · rw [hx,Int.add_mul_ediv_left _ _ (by omega),← hq]
   have:(10*r+d) / B+10*(l+18446744073709551616*H)=l*10+(10*r+d) / B+18446744073709551616*(10*H):=by grind
   rw [this,Int.add_mul_emod_self_left]
 · rw [hm,h10,← Int.ediv_ediv_of_nonneg (Int.le_of_lt hp),Int.add_mul_ediv_left _ _ (by omega),Int.add_comm]
def mix (n j:Nat) (x v:Int):List Int:=(lims n x).take j++(lims n v).drop j
theorem mix_zero (n:Nat) (x v:Int):mix n 0 x v=lims n v:=by simp [mix]
theorem mix_full (n:Nat) (x v:Int):mix n n x v=lims n x:=by
 unfold mix
 rw [List.take_of_length_le (by rw [lims_length];omega),List.drop_of_length_le (by rw [lims_length];omega),List.append_nil]
theorem mix_get {n j:Nat} (x v:Int) (h:j<n):(mix n j x v)[j]?=some (lim v j):=by
 unfold mix
 rw [List.getElem?_append_right (by simp [lims_length];omega),List.getElem?_drop]
 have e:j+(j - ((lims n x).take j).length)=j:=by simp [lims_length];omega
 rw [e,lims_get v h]
theorem mix_set {n j:Nat} (x v:Int) (h:j<n):(mix n j x v).set j (lim x j)=mix n (j+1) x v:=by
 unfold mix
 have hl:((lims n x).take j).length=j:=by simp [lims_length];omega
 have hd:(lims n v).drop j=lim v j::(lims n v).drop (j+1):=by
  rw [List.drop_eq_getElem_cons (by rw [lims_length];exact h)]
  congr 1
  have:=lims_get v h
  exact (List.getElem?_eq_some_iff.1 this).2
 rw [List.set_append_right _ _ (by omega),hl,Nat.sub_self,hd,List.set_cons_zero,List.take_add_one,lims_get x h,List.append_assoc]
 rfl
theorem valL_zero:∀ l:List Int,L64 l→valL l=0→∀ x∈l,x=0
 | [],_,_=>by simp
 | a::t,h,hz=>by
   have h1:=valL_bd t h.tail
   have h2:=h.head
   rw [valL] at hz
   intro x hx
   rcases List.mem_cons.1 hx with rfl | hx
   · omega
   · exact valL_zero t h.tail (by omega) x hx
theorem valL_zeros:∀ l:List Int,(∀ x∈l,x=0)→valL l=0
 | [],_=>rfl
 | a::t,h=>by rw [valL,valL_zeros t fun x hx=>h x (List.mem_cons_of_mem _ hx),h a (by simp)];rfl
theorem over_lims {m n:Nat} {v:Int} (v0:0≤v) (v1:v<(18446744073709551616:Int) ^ m) (hn:n≤m):(((lims m v).drop n).any fun x=>!(x == 0))=decide ((18446744073709551616:Int) ^ n≤v):=by
 have hu:=lims_L64 m v
 have hv:valL (lims m v)=v:=by rw [valL_lims,Int.emod_eq_of_lt v0 v1]
 have hs:=valL_append ((lims m v).take n) ((lims m v).drop n)
 rw [List.take_append_drop,hv,lims_take v hn,lims_length] at hs
 have hb:=valL_bd (lims n v) (lims_L64 n v)
 rw [lims_length] at hb
 have hd:L64 ((lims m v).drop n):=fun x hx=>hu x (List.mem_of_mem_drop hx)
 have hdb:=valL_bd _ hd
 have hp:=W64_pos n
 generalize (lims m v).drop n=l at *
 by_cases h:∀ x∈l,x=0
 · rw [valL_zeros l h,Int.mul_zero] at hs
   rw [decide_eq_false (by omega),List.any_eq_false]
   intro x hx
   simp [h x hx]
 · have hx:∃ x,x∈l∧x≠0:=Classical.byContradiction fun hh=>h fun x hx=>Classical.byContradiction fun h0=>hh ⟨x,hx,h0⟩
   obtain ⟨x,hx,h0⟩:=hx
   have hne:valL l≠0:=fun hz=>h0 (valL_zero l hd hz x hx)
   have h1:1≤valL l:=by omega
   have h2:=Int.mul_le_mul_of_nonneg_left h1 (Int.le_of_lt hp)
   rw [decide_eq_true (by omega),List.any_eq_true]
   exact ⟨x,hx,by simp [h0]⟩
theorem sgn_lims {n:Nat} {p:Int} (h0:-((18446744073709551616:Int) ^ n)<p) (h1:p<(18446744073709551616:Int) ^ n):∃ v,Fits n v∧lims n v=lims n p∧(Fits n p→v=p)∧(¬ Fits n p→0≤p→v<0)∧(¬ Fits n p→p<0→0<v):=by
 have hp:=W64_pos n
 by_cases hf:Fits n p
 · exact ⟨p,hf,rfl,fun _=>rfl,fun h=>absurd hf h,fun h=>absurd hf h⟩
 · by_cases hs:0≤p
   · refine ⟨p - (18446744073709551616:Int) ^ n,?_,lims_eq ?_,fun h=>absurd h hf,?_,?_⟩
     · unfold Fits at *
       generalize (18446744073709551616:Int) ^ n=B at *
       omega
     · exact Int.sub_emod_right _ _
     · intro _ _
       omega
     · intro _ h;omega
   · refine ⟨p+(18446744073709551616:Int) ^ n,?_,lims_eq ?_,fun h=>absurd h hf,?_,?_⟩
     · unfold Fits at *
       generalize (18446744073709551616:Int) ^ n=B at *
       omega
     · exact Int.add_emod_right _ _
     · intro _ h;omega
     · intro _ _;omega
end
section
structure KI (u y1 y0 u1 q r:Nat):Prop where
 hA:q*y1+r=u
 hN:u*4294967296+u1<4294967296*(q*y1)+q*y0+4294967296*y1+y0
structure KD (u y1 y0 u1 q:Nat):Prop where
 lo:4294967296*(q*y1)+q*y0≤u*4294967296+u1
 hi:u*4294967296+u1<4294967296*(q*y1)+q*y0+4294967296*y1+y0
 lt:q<4294967296
theorem KI.small {u y1 y0 u1 q r:Nat} (h:KI u y1 y0 u1 q r) (hu:u<y1*4294967296+y0) (hq:4294967296≤q):r<y0:=by
 have h1:=h.hA
 have h2:=Nat.mul_le_mul_right y1 hq
 generalize q*y1=A at *
 omega
theorem KI.step {u y1 y0 u1 q r:Nat} (h:KI u y1 y0 u1 q r) (hc:4294967296≤q∨4294967296*r+u1<q*y0) (hu:u<y1*4294967296+y0) (hu1:u1<4294967296) :
 1≤q∧KI u y1 y0 u1 (q - 1) (r+y1):=by
 have hq:1≤q:=by
  rcases Nat.eq_zero_or_pos q with rfl | hp
  · rw [Nat.zero_mul] at hc
    omega
  · exact hp
 refine ⟨hq,?_⟩
 obtain ⟨p,rfl⟩:∃ p,q=p+1:=⟨q - 1,by omega⟩
 obtain ⟨hA,hN⟩:=h
 have e1:(p+1)*y1=p*y1+y1:=Nat.succ_mul p y1
 have e0:(p+1)*y0=p*y0+y0:=Nat.succ_mul p y0
 rw [e1] at hA hN
 rw [e0] at hN hc
 rw [Nat.add_sub_cancel]
 constructor
 · omega
 · rcases hc with hc | hc
   · have h2:=Nat.mul_le_mul_right y1 hc
     have h3:=Nat.mul_le_mul_right y0 hc
     rw [e1] at h2
     rw [e0] at h3
     generalize p*y1=A at *
     generalize p*y0=B at *
     omega
   · generalize p*y1=A at *
     generalize p*y0=B at *
     omega
theorem KI.done {u y1 y0 u1 q r:Nat} (h:KI u y1 y0 u1 q r) (hq:q<4294967296) (hc:q*y0≤4294967296*r+u1):KD u y1 y0 u1 q:=by
 obtain ⟨hA,hN⟩:=h
 refine ⟨?_,hN,hq⟩
 generalize q*y1=A at *
 generalize q*y0=B at *
 omega
def KD.left (u y1 y0 u1 q:Nat):Nat:=u*4294967296+u1 - q*(y1*4294967296+y0)
theorem KD.exp (q y1 y0:Nat):q*(y1*4294967296+y0)=4294967296*(q*y1)+q*y0:=by
 rw [Nat.mul_add,← Nat.mul_assoc,Nat.mul_comm _ 4294967296]
theorem KD.eq {u y1 y0 u1 q:Nat} (h:KD u y1 y0 u1 q):u*4294967296+u1=q*(y1*4294967296+y0)+KD.left u y1 y0 u1 q∧KD.left u y1 y0 u1 q<y1*4294967296+y0:=by
 obtain ⟨h1,h2,h3⟩:=h
 unfold KD.left
 rw [KD.exp]
 generalize q*y1=A at *
 generalize q*y0=B at *
 omega
end
end Go.Proofs.YthnenedoblncjaaGreatDoor
