/- Bitonic -/
import Derived.Test.YthnenedoblncjaaGreatDoorPkP01
set_option maxRecDepth 1000000
set_option maxHeartbeats 8000000
namespace Go.Proofs.YthnenedoblncjaaGreatDoor
section
def cmpB (x:Nat→Bool) (c:Nat × Nat):Nat→Bool:=fun i=>if i=c.1 then x c.1 && x c.2 else if i=c.2 then x c.1 || x c.2 else x i
def sweepC (k j i:Nat):Option (Nat × Nat):=if i / j % 2=1 then none else if i / k % 2=1 then some (i+j,i) else some (i,i+j)
def sweep (n k j:Nat):List (Nat × Nat):=(List.range n).filterMap (sweepC k j)
def merges (n k:Nat):Nat→List (Nat × Nat)
 | 0=>[]
 | b+1=>sweep n k (2 ^ b)++merges n k b
def rounds (n s:Nat):Nat→List (Nat × Nat)
 | 0=>[]
 | r+1=>merges n (2 ^ (s+1)) (s+1)++rounds n (s+1) r
def netw (m:Nat):List (Nat × Nat):=rounds (2 ^ m) 0 m
def stepB (k j:Nat) (x:Nat→Bool) (i:Nat):Bool :=
 if i / j % 2=0 then (if i / k % 2=0 then x i && x (i+j) else x i || x (i+j)) else (if i / k % 2=0 then x (i - j) || x i else x (i - j) && x i)
theorem div_par {j i:Nat} (hj:0<j):i / j % 2=0 ↔ i % (2*j)<j:=by
 have h1:=Nat.div_add_mod i j
 have h2:=Nat.mod_lt i hj
 have h3:i % (2*j)=i % j+j*(i / j % 2):=by rw [Nat.mul_comm 2 j,Nat.mod_mul]
 rcases Nat.mod_two_eq_zero_or_one (i / j) with h | h <;> rw [h3,h] <;> simp <;> omega
theorem even_add {j i:Nat} (hj:0<j) (h:i / j % 2=0):(i+j) / j % 2=1:=by
 rw [Nat.add_div_right i hj];omega
theorem odd_sub {j i:Nat} (hj:0<j) (h:i / j % 2=1):j≤i∧(i - j) / j % 2=0:=by
 have h1:j≤i:=by
  rcases Nat.lt_or_ge i j with h2 | h2
  · rw [Nat.div_eq_of_lt h2] at h;omega
  · exact h2
 obtain ⟨q,rfl⟩:=Nat.exists_eq_add_of_le h1
 rw [Nat.add_comm j q,Nat.add_div_right q hj] at h
 refine ⟨h1,?_⟩
 rw [Nat.add_comm j q,Nat.add_sub_cancel];omega
theorem same_k {j k i:Nat} (hj:0<j) (hk:2*j ∣ k) (h:i / j % 2=0):(i+j) / k=i / k:=by
 obtain ⟨c,rfl⟩:=hk
 have h1:=(div_par hj).1 h
 rw [← Nat.div_div_eq_div_mul (i+j) (2*j) c,← Nat.div_div_eq_div_mul i (2*j) c]
 congr 1
 have h2:=Nat.div_add_mod i (2*j)
 have h3:i+j=2*j*(i / (2*j))+(i % (2*j)+j):=by omega
 rw [h3,Nat.mul_add_div (by omega),Nat.div_eq_of_lt (a:=i % (2*j)+j) (by omega)]
 simp
theorem sweep_upto (k j:Nat) (hj:0<j) (hk:2*j ∣ k) (x:Nat→Bool):∀ m i,((List.range m).filterMap (sweepC k j)).foldl cmpB x i =
 if (if i / j % 2=0 then i else i - j)<m then stepB k j x i else x i:=by
 intro m
 induction m with
 | zero=>intro i;simp
 | succ m ih =>
   intro i
   rw [List.range_succ,List.filterMap_append,List.foldl_append]
   obtain ⟨y,hy⟩:∃ y,y=((List.range m).filterMap (sweepC k j)).foldl cmpB x:=⟨_,rfl⟩
   rw [← hy] at ih ⊢
   rcases Nat.mod_two_eq_zero_or_one (m / j) with hm | hm
   · -- m is a low index
     have hmj:=even_add hj hm
     have hkk:=same_k hj hk hm
     have y1:y m=x m:=by rw [ih m,if_pos hm,if_neg (Nat.lt_irrefl m)]
     have hl:(if (m+j) / j % 2=0 then m+j else m+j - j)=m:=by rw [if_neg (by omega)];omega
     have y2:y (m+j)=x (m+j):=by rw [ih (m+j),hl,if_neg (Nat.lt_irrefl m)]
     have hm1:¬ m / j % 2=1:=by omega
     rcases Nat.mod_two_eq_zero_or_one (m / k) with hb | hb
     · have e:List.filterMap (sweepC k j) [m]=[(m,m+j)]:=by simp [sweepC,hm,hb]
       rw [e]
       simp only [List.foldl_cons,List.foldl_nil,cmpB,y1,y2]
       by_cases h1:i=m
       · subst h1;rw [if_pos rfl,if_pos hm,if_pos (by omega)];simp [stepB,hm,hb]
       · rw [if_neg h1]
         by_cases h2:i=m+j
         · subst h2;rw [if_pos rfl,hl,if_pos (Nat.lt_succ_self m)];simp [stepB,hmj,hkk,hb]
         · rw [if_neg h2,ih i]
           by_cases h3:i / j % 2=0
           · rw [if_pos h3]
             by_cases h4:i<m
             · rw [if_pos h4,if_pos (by omega)]
             · rw [if_neg h4,if_neg (by omega)]
           · have h5:=odd_sub hj (i:=i) (by omega)
             rw [if_neg h3]
             by_cases h4:i - j<m
             · rw [if_pos h4,if_pos (by omega)]
             · rw [if_neg h4,if_neg (by omega)]
     · have e:List.filterMap (sweepC k j) [m]=[(m+j,m)]:=by simp [sweepC,hm,hb]
       rw [e]
       simp only [List.foldl_cons,List.foldl_nil,cmpB,y1,y2]
       by_cases h2:i=m+j
       · subst h2;rw [if_pos rfl,hl,if_pos (Nat.lt_succ_self m)];simp [stepB,hmj,hkk,hb,Bool.and_comm]
       · rw [if_neg h2]
         by_cases h1:i=m
         · subst h1;rw [if_pos rfl,if_pos hm,if_pos (by omega)];simp [stepB,hm,hb,Bool.or_comm]
         · rw [if_neg h1,ih i]
           by_cases h3:i / j % 2=0
           · rw [if_pos h3]
             by_cases h4:i<m
             · rw [if_pos h4,if_pos (by omega)]
             · rw [if_neg h4,if_neg (by omega)]
           · have h5:=odd_sub hj (i:=i) (by omega)
             rw [if_neg h3]
             by_cases h4:i - j<m
             · rw [if_pos h4,if_pos (by omega)]
             · rw [if_neg h4,if_neg (by omega)]
   · have e:List.filterMap (sweepC k j) [m]=[]:=by simp [sweepC,hm]
     rw [e,List.foldl_nil,ih i]
     by_cases h3:i / j % 2=0
     · rw [if_pos h3]
       have:i≠m:=fun h=>by subst h;omega
       by_cases h4:i<m
       · rw [if_pos h4,if_pos (by omega)]
       · rw [if_neg h4,if_neg (by omega)]
     · have h5:=odd_sub hj (i:=i) (by omega)
       have:i - j≠m:=fun h=>by rw [h] at h5;omega
       rw [if_neg h3]
       by_cases h4:i - j<m
       · rw [if_pos h4,if_pos (by omega)]
       · rw [if_neg h4,if_neg (by omega)]
theorem sweep_step {n k j:Nat} (hj:0<j) (hk:2*j ∣ k) (x:Nat→Bool) {i:Nat} (hi:i<n):(sweep n k j).foldl cmpB x i=stepB k j x i:=by
 rw [sweep,sweep_upto k j hj hk x n i,if_pos]
 split <;> omega
def flip (k:Nat) (x:Nat→Bool) (i:Nat):Bool:=x i ^^ decide (i / k % 2=1)
theorem stepLo {k j:Nat} (hj:0<j) (hk:2*j ∣ k) (x:Nat→Bool) {b o:Nat} (hb:2*j ∣ b) (ho:o<j):flip k (stepB k j x) (b+o)=(flip k x (b+o) && flip k x (b+o+j)):=by
 obtain ⟨c,rfl⟩:=hb
 have h1:(2*j*c+o) / j % 2=0:=by
  rw [div_par hj,Nat.mul_add_mod,Nat.mod_eq_of_lt (by omega)];exact ho
 have h2:=same_k hj hk h1
 unfold flip stepB
 rw [if_pos h1,h2]
 rcases Nat.mod_two_eq_zero_or_one ((2*j*c+o) / k) with h | h <;> rw [h] <;> simp
theorem stepHi {k j:Nat} (hj:0<j) (hk:2*j ∣ k) (x:Nat→Bool) {b o:Nat} (hb:2*j ∣ b) (ho:o<j):flip k (stepB k j x) (b+o+j)=(flip k x (b+o) || flip k x (b+o+j)):=by
 obtain ⟨c,rfl⟩:=hb
 have h1:(2*j*c+o) / j % 2=0:=by
  rw [div_par hj,Nat.mul_add_mod,Nat.mod_eq_of_lt (by omega)];exact ho
 have h2:=same_k hj hk h1
 have h3:=even_add hj h1
 unfold flip stepB
 rw [if_neg (by omega),h2,Nat.add_sub_cancel]
 rcases Nat.mod_two_eq_zero_or_one ((2*j*c+o) / k) with h | h <;> rw [h] <;> simp
def Bito (s:Nat) (f:Nat→Bool):Prop:=∃ a b,a≤b∧b≤s∧((∀ o,o<s→f o=decide (a≤o∧o<b))∨∀ o,o<s→f o=!decide (a≤o∧o<b))
theorem half {j:Nat} {f:Nat→Bool} (h:Bito (2*j) f) :
 ((∀ o,o<j→(f o && f (o+j))=false)∧Bito j fun o=>f o || f (o+j))∨((∀ o,o<j→(f o || f (o+j))=true)∧Bito j fun o=>f o && f (o+j)):=by
 obtain ⟨a,b,hab,hb,h⟩:=h
 rcases h with h | h
 · have g:∀ o,o<j→f o=decide (a≤o∧o<b)∧f (o+j)=decide (a≤o+j∧o+j<b):=fun o ho=>⟨h o (by omega),h (o+j) (by omega)⟩
   by_cases h1:b≤j
   · refine .inl ⟨fun o ho=>?_,a,b,hab,h1,.inl fun o ho=>?_⟩
     · rw [(g o ho).2,decide_eq_false (by omega)];simp
     · show (f o || f (o+j))=_
       rw [(g o ho).1,(g o ho).2,decide_eq_false (p:=a≤o+j∧o+j<b) (by omega)];simp
   · by_cases h2:j≤a
     · refine .inl ⟨fun o ho=>?_,a - j,b - j,by omega,by omega,.inl fun o ho=>?_⟩
       · rw [(g o ho).1,decide_eq_false (by omega)];simp
       · show (f o || f (o+j))=_
         rw [(g o ho).1,(g o ho).2,decide_eq_false (p:=a≤o∧o<b) (by omega),Bool.false_or]
         exact decide_eq_decide.2 (by omega)
     · by_cases h3:b - j≤a
       · refine .inl ⟨fun o ho=>?_,b - j,a,h3,by omega,.inr fun o ho=>?_⟩
         · rw [(g o ho).1,(g o ho).2,← Bool.decide_and];exact decide_eq_false (by omega)
         · show (f o || f (o+j))=_
           rw [(g o ho).1,(g o ho).2,← Bool.decide_or,← decide_not];exact decide_eq_decide.2 (by omega)
       · refine .inr ⟨fun o ho=>?_,a,b - j,by omega,by omega,.inl fun o ho=>?_⟩
         · rw [(g o ho).1,(g o ho).2,← Bool.decide_or];exact decide_eq_true (by omega)
         · show (f o && f (o+j))=_
           rw [(g o ho).1,(g o ho).2,← Bool.decide_and];exact decide_eq_decide.2 (by omega)
 · have g:∀ o,o<j→f o=!decide (a≤o∧o<b)∧f (o+j)=!decide (a≤o+j∧o+j<b):=fun o ho=>⟨h o (by omega),h (o+j) (by omega)⟩
   by_cases h1:b≤j
   · refine .inr ⟨fun o ho=>?_,a,b,hab,h1,.inr fun o ho=>?_⟩
     · rw [(g o ho).2,decide_eq_false (by omega)];simp
     · show (f o && f (o+j))=_
       rw [(g o ho).1,(g o ho).2,decide_eq_false (p:=a≤o+j∧o+j<b) (by omega)];simp
   · by_cases h2:j≤a
     · refine .inr ⟨fun o ho=>?_,a - j,b - j,by omega,by omega,.inr fun o ho=>?_⟩
       · rw [(g o ho).1,decide_eq_false (by omega)];simp
       · show (f o && f (o+j))=_
         rw [(g o ho).1,(g o ho).2,decide_eq_false (p:=a≤o∧o<b) (by omega),Bool.not_false,Bool.true_and]
         exact congrArg _ (decide_eq_decide.2 (by omega))
     · by_cases h3:b - j≤a
       · refine .inr ⟨fun o ho=>?_,b - j,a,h3,by omega,.inl fun o ho=>?_⟩
         · rw [(g o ho).1,(g o ho).2,← decide_not,← decide_not,← Bool.decide_or];exact decide_eq_true (by omega)
         · show (f o && f (o+j))=_
           rw [(g o ho).1,(g o ho).2,← decide_not,← decide_not,← Bool.decide_and];exact decide_eq_decide.2 (by omega)
       · refine .inl ⟨fun o ho=>?_,a,b - j,by omega,by omega,.inr fun o ho=>?_⟩
         · rw [(g o ho).1,(g o ho).2,← decide_not,← decide_not,← Bool.decide_and];exact decide_eq_false (by omega)
         · show (f o || f (o+j))=_
           rw [(g o ho).1,(g o ho).2,← decide_not,← decide_not,← decide_not,← Bool.decide_or];exact decide_eq_decide.2 (by omega)
def MInv (n k s:Nat) (y:Nat→Bool):Prop:=∀ Q,Q*k+k≤n→∃ p,s ∣ p∧p+s≤k∧(∀ o,o<p→y (Q*k+o)=false)∧(∀ o,p+s≤o→o<k→y (Q*k+o)=true)∧Bito s fun o=>y (Q*k+p+o)
theorem split_at {s i:Nat} (hs:0<s):∃ b r,s ∣ b∧r<s∧i=b+r:=⟨s*(i / s),i % s,Nat.dvd_mul_right _ _,Nat.mod_lt _ hs,(Nat.div_add_mod i s).symm⟩
theorem dvd_le {s a b:Nat} (ha:s ∣ a) (hb:s ∣ b) (h:a<b):a+s≤b:=by
 obtain ⟨c,rfl⟩:=ha;obtain ⟨d,rfl⟩:=hb
 have:c<d:=Nat.lt_of_mul_lt_mul_left h
 calc s*c+s=s*(c+1):=by rw [Nat.mul_add,Nat.mul_one]
  _≤s*d:=Nat.mul_le_mul_left _ this
theorem merge_step {n k j:Nat} (hj:0<j) (hk:2*j ∣ k) {x:Nat→Bool} {z:Nat→Bool} (hz:∀ i,i<n→z i=stepB k j x i) (h:MInv n k (2*j) (flip k x)):MInv n k j (flip k z):=by
 intro Q hQ
 obtain ⟨p,hp1,hp2,hlo,hhi,hb⟩:=h Q hQ
 have hzf:∀ i,i<n→flip k z i=flip k (stepB k j x) i:=fun i hi=>by unfold flip;rw [hz i hi]
 have hQk:2*j ∣ Q*k:=Nat.dvd_trans hk (Nat.dvd_mul_left _ _)
 have lo:∀ o,o<p→flip k z (Q*k+o)=false:=by
  intro o ho
  rw [hzf _ (by omega)]
  obtain ⟨b,r,hb1,hr,rfl⟩:=split_at (s:=2*j) (i:=o) (by omega)
  have hbp:b+2*j≤p:=dvd_le hb1 hp1 (by omega)
  have hbb:2*j ∣ Q*k+b:=Nat.dvd_add hQk hb1
  by_cases hrj:r<j
  · rw [← Nat.add_assoc,stepLo hj hk x hbb hrj,Nat.add_assoc (Q*k),hlo (b+r) (by omega)];rfl
  · have e:Q*k+(b+r)=Q*k+b+(r - j)+j:=by omega
    rw [e,stepHi hj hk x hbb (by omega)]
    have e1:Q*k+b+(r - j)=Q*k+(b+(r - j)):=by omega
    have e2:Q*k+b+(r - j)+j=Q*k+(b+r):=by omega
    rw [e2,e1,hlo _ (by omega),hlo _ (by omega)];rfl
 have hi:∀ o,p+2*j≤o→o<k→flip k z (Q*k+o)=true:=by
  intro o ho hok
  rw [hzf _ (by omega)]
  obtain ⟨b,r,hb1,hr,rfl⟩:=split_at (s:=2*j) (i:=o) (by omega)
  have hbp:p+2*j≤b:=by
   rcases Nat.lt_or_ge p b with h | h
   · exact dvd_le hp1 hb1 h
   · omega
  have hbk:b+2*j≤k:=dvd_le hb1 hk (by omega)
  have hbb:2*j ∣ Q*k+b:=Nat.dvd_add hQk hb1
  by_cases hrj:r<j
  · rw [← Nat.add_assoc,stepLo hj hk x hbb hrj]
    have e1:Q*k+b+r=Q*k+(b+r):=by omega
    have e2:Q*k+b+r+j=Q*k+(b+r+j):=by omega
    rw [e2,e1,hhi _ (by omega) (by omega),hhi _ (by omega) (by omega)];rfl
  · have e:Q*k+(b+r)=Q*k+b+(r - j)+j:=by omega
    rw [e,stepHi hj hk x hbb (by omega)]
    have e2:Q*k+b+(r - j)+j=Q*k+(b+r):=by omega
    rw [e2,hhi (b+r) (by omega) (by omega),Bool.or_true]
 have hpp:2*j ∣ Q*k+p:=Nat.dvd_add hQk hp1
 have mlo:∀ o,o<j→flip k z (Q*k+p+o)=(flip k x (Q*k+p+o) && flip k x (Q*k+p+(o+j))):=fun o ho=>by
  rw [hzf _ (by omega),stepLo hj hk x hpp ho,Nat.add_assoc (Q*k+p)]
 have mhi:∀ o,o<j→flip k z (Q*k+p+j+o)=(flip k x (Q*k+p+o) || flip k x (Q*k+p+(o+j))):=fun o ho=>by
  have e:Q*k+p+j+o=Q*k+p+o+j:=by omega
  rw [e,hzf _ (by omega),stepHi hj hk x hpp ho,Nat.add_assoc (Q*k+p)]
 have hjp:j ∣ p:=Nat.dvd_trans (Nat.dvd_mul_left j 2) hp1
 rcases half hb with ⟨h0,h1⟩ | ⟨h0,h1⟩
 · refine ⟨p+j,Nat.dvd_add hjp (Nat.dvd_refl j),by omega,fun o ho=>?_,fun o ho=>hi o (by omega),?_⟩
   · by_cases hop:o<p
     · exact lo o hop
     · have e:Q*k+o=Q*k+p+(o - p):=by omega
       rw [e,mlo _ (by omega)];exact h0 _ (by omega)
   · obtain ⟨a,b,hab,hbj,hh⟩:=h1
     refine ⟨a,b,hab,hbj,?_⟩
     rcases hh with hh | hh
     · refine .inl fun o ho=>?_
       show flip k z (Q*k+(p+j)+o)=_
       rw [show Q*k+(p+j)+o=Q*k+p+j+o by omega,mhi o ho];exact hh o ho
     · refine .inr fun o ho=>?_
       show flip k z (Q*k+(p+j)+o)=_
       rw [show Q*k+(p+j)+o=Q*k+p+j+o by omega,mhi o ho];exact hh o ho
 · refine ⟨p,hjp,by omega,lo,fun o ho hok=>?_,?_⟩
   · by_cases hop:p+2*j≤o
     · exact hi o hop hok
     · have e:Q*k+o=Q*k+p+j+(o - p - j):=by omega
       rw [e,mhi _ (by omega)];exact h0 _ (by omega)
   · obtain ⟨a,b,hab,hbj,hh⟩:=h1
     refine ⟨a,b,hab,hbj,?_⟩
     rcases hh with hh | hh
     · exact .inl fun o ho=>(mlo o ho).trans (hh o ho)
     · exact .inr fun o ho=>(mlo o ho).trans (hh o ho)
theorem merges_inv {n k:Nat}:∀ (b:Nat) (x:Nat→Bool),2 ^ b ∣ k→MInv n k (2 ^ b) (flip k x)→MInv n k 1 (flip k ((merges n k b).foldl cmpB x))
 | 0,x,_,h=>h
 | b+1,x,hk,h=>by
   rw [merges,List.foldl_append]
   have e:2 ^ (b+1)=2*2 ^ b:=by rw [Nat.pow_succ,Nat.mul_comm]
   rw [e] at hk h
   exact merges_inv b _ (Nat.dvd_trans (Nat.dvd_mul_left _ 2) hk) (merge_step (Nat.two_pow_pos b) hk (fun i hi=>sweep_step (Nat.two_pow_pos b) hk x hi) h)
def RInv (n k:Nat) (x:Nat→Bool):Prop:=∀ Q,Q*k+k≤n→∃ a,∀ o,o<k→flip k x (Q*k+o)=decide (a≤o)
theorem rinv_one (n:Nat) (x:Nat→Bool):RInv n 1 x:=fun Q _=>by
 cases h:flip 1 x (Q*1+0)
 · exact ⟨1,fun o ho=>by have:o=0:=by omega
                         subst this;rw [h];rfl⟩
 · exact ⟨0,fun o ho=>by have:o=0:=by omega
                         subst this;rw [h];rfl⟩
theorem rinv_of_minv {n k:Nat} {x:Nat→Bool} (h:MInv n k 1 (flip k x)):RInv n k x:=by
 intro Q hQ
 obtain ⟨p,_,hp,hlo,hhi,_⟩:=h Q hQ
 cases hm:flip k x (Q*k+p)
 · refine ⟨p+1,fun o ho=>?_⟩
   rcases Nat.lt_trichotomy o p with h1 | h1 | h1
   · rw [hlo o h1,decide_eq_false (by omega)]
   · subst h1;rw [hm,decide_eq_false (by omega)]
   · rw [hhi o (by omega) ho,decide_eq_true (by omega)]
 · refine ⟨p,fun o ho=>?_⟩
   rcases Nat.lt_trichotomy o p with h1 | h1 | h1
   · rw [hlo o h1,decide_eq_false (by omega)]
   · subst h1;rw [hm,decide_eq_true (by omega)]
   · rw [hhi o (by omega) ho,decide_eq_true (by omega)]
theorem minv_of_rinv {n k:Nat} (hk:0<k) {x:Nat→Bool} (h:RInv n k x):MInv n (2*k) (2*k) (flip (2*k) x):=by
 intro Q hQ
 have e0:2*Q*k=Q*(2*k):=by rw [Nat.mul_comm 2 Q,Nat.mul_assoc]
 have e1:(2*Q+1)*k=Q*(2*k)+k:=by rw [Nat.add_mul,e0,Nat.one_mul]
 obtain ⟨a,ha⟩:=h (2*Q) (by omega)
 obtain ⟨b,hb⟩:=h (2*Q+1) (by omega)
 rw [e0] at ha
 rw [e1] at hb
 obtain ⟨B,hB⟩:∃ B,B=Q*(2*k):=⟨_,rfl⟩
 have q0:∀ o,o<k→(B+o) / k=2*Q:=fun o ho=>by
  rw [hB,← e0,Nat.mul_comm (2*Q) k,Nat.mul_add_div hk,Nat.div_eq_of_lt ho];rfl
 have q1:∀ o,o<k→(B+k+o) / k=2*Q+1:=fun o ho=>by
  rw [hB,← e1,Nat.mul_comm (2*Q+1) k,Nat.mul_add_div hk,Nat.div_eq_of_lt ho]
 have q2:∀ o,o<2*k→(B+o) / (2*k)=Q:=fun o ho=>by
  rw [hB,Nat.mul_comm Q (2*k),Nat.mul_add_div (by omega),Nat.div_eq_of_lt ho];rfl
 rw [← hB] at ha hb hQ ⊢
 have x0:∀ o,o<k→x (B+o)=decide (a≤o):=fun o ho=>by
  have:=ha o ho
  unfold flip at this
  rw [q0 o ho] at this
  simpa using this
 have x1:∀ o,o<k→x (B+k+o)=!decide (b≤o):=fun o ho=>by
  have:=hb o ho
  unfold flip at this
  rw [q1 o ho,decide_eq_true (p:=(2*Q+1) % 2=1) (by omega),Bool.xor_true] at this
  rw [← this,Bool.not_not]
 refine ⟨0,Nat.dvd_zero _,by omega,fun o ho=>by omega,fun o ho ho'=>by omega,min a k,k+min b k,by omega,by omega,?_⟩
 have xx:∀ o,o<2*k→x (B+o)=decide (min a k≤o∧o<k+min b k):=fun o ho=>by
  by_cases h1:o<k
  · rw [x0 o h1];exact decide_eq_decide.2 (by omega)
  · rw [show B+o=B+k+(o - k) by omega,x1 _ (by omega),← decide_not];exact decide_eq_decide.2 (by omega)
 rcases Nat.mod_two_eq_zero_or_one Q with hq | hq
 · refine .inl fun o ho=>?_
   show flip (2*k) x (B+0+o)=_
   unfold flip
   rw [Nat.add_zero,q2 o ho,xx o ho,decide_eq_false (p:=Q % 2=1) (by omega),Bool.xor_false]
 · refine .inr fun o ho=>?_
   show flip (2*k) x (B+0+o)=_
   unfold flip
   rw [Nat.add_zero,q2 o ho,xx o ho,decide_eq_true hq,Bool.xor_true]
theorem rounds_inv {n:Nat}:∀ (r s:Nat) (x:Nat→Bool),RInv n (2 ^ s) x→RInv n (2 ^ (s+r)) ((rounds n s r).foldl cmpB x)
 | 0,s,x,h=>h
 | r+1,s,x,h=>by
   rw [rounds,List.foldl_append]
   have e:2 ^ (s+1)=2*2 ^ s:=by rw [Nat.pow_succ,Nat.mul_comm]
   have h1:=merges_inv (n:=n) (s+1) x (Nat.dvd_refl _) (by rw [e];exact minv_of_rinv (Nat.two_pow_pos s) h)
   have h2:=rounds_inv r (s+1) _ (rinv_of_minv h1)
   rw [show s+(r+1)=s+1+r by omega]
   exact h2
theorem netw_01 (m:Nat) (x:Nat→Bool):∃ a,∀ o,o<2 ^ m→(netw m).foldl cmpB x o=decide (a≤o):=by
 have h:=rounds_inv (n:=2 ^ m) m 0 x (rinv_one _ x)
 rw [Nat.zero_add] at h
 obtain ⟨a,ha⟩:=h 0 (by simp)
 refine ⟨a,fun o ho=>?_⟩
 have:=ha o ho
 unfold flip at this
 rw [Nat.zero_mul,Nat.zero_add,Nat.div_eq_of_lt ho] at this
 rw [netw]
 simpa using this
section
variable {α:Type} (key:α→Nat)
def exch (l:List α) (c:Nat × Nat):List α:=match l[c.1]?,l[c.2]? with
 | some a,some b=>if key b<key a then (l.set c.1 b).set c.2 a else l
 | _,_=>l
theorem exch_perm (l:List α) (c:Nat × Nat):(exch key l c).Perm l:=by
 unfold exch
 split
 · rename_i a b h1 h2
   obtain ⟨k1,e1⟩:=List.getElem?_eq_some_iff.1 h1
   obtain ⟨k2,e2⟩:=List.getElem?_eq_some_iff.1 h2
   split
   · subst e1;subst e2
     exact List.set_set_perm k1 k2
   · exact List.Perm.refl _
 · exact List.Perm.refl _
theorem exch_length (l:List α) (c:Nat × Nat):(exch key l c).length=l.length:=(exch_perm key l c).length_eq
theorem fold_perm:∀ (cs:List (Nat × Nat)) (l:List α),(cs.foldl (exch key) l).Perm l
 | [],_=>List.Perm.refl _
 | c::cs,l=>(fold_perm cs _).trans (exch_perm key l c)
def thr (t:Nat) (l:List α) (i:Nat):Bool:=match l[i]? with
 | some a=>decide (t≤key a)
 | none=>false
theorem thr_exch (t:Nat) (l:List α) (c:Nat × Nat) (h1:c.1<l.length) (h2:c.2<l.length) (hne:c.1≠c.2):thr key t (exch key l c)=cmpB (thr key t l) c:=by
 funext i
 have g1:=List.getElem?_eq_getElem h1
 have g2:=List.getElem?_eq_getElem h2
 obtain ⟨a,ha⟩:∃ a,a=l[c.1]:=⟨_,rfl⟩
 obtain ⟨b,hb⟩:∃ b,b=l[c.2]:=⟨_,rfl⟩
 rw [← ha] at g1
 rw [← hb] at g2
 have t1:thr key t l c.1=decide (t≤key a):=by unfold thr;rw [g1]
 have t2:thr key t l c.2=decide (t≤key b):=by unfold thr;rw [g2]
 unfold cmpB
 rw [t1,t2,← Bool.decide_and,← Bool.decide_or]
 unfold exch
 rw [g1,g2]
 dsimp only
 by_cases hk:key b<key a
 · rw [if_pos hk]
   by_cases i1:i=c.1
   · subst i1
     unfold thr
     rw [if_pos rfl,List.getElem?_set_ne (Ne.symm hne),List.getElem?_set_self h1]
     exact decide_eq_decide.2 (by omega)
   · by_cases i2:i=c.2
     · subst i2
       unfold thr
       rw [if_neg i1,if_pos rfl,List.getElem?_set_self (by rw [List.length_set];exact h2)]
       exact decide_eq_decide.2 (by omega)
     · unfold thr
       rw [if_neg i1,if_neg i2,List.getElem?_set_ne (Ne.symm i2),List.getElem?_set_ne (Ne.symm i1)]
 · rw [if_neg hk]
   by_cases i1:i=c.1
   · subst i1;rw [if_pos rfl,t1];exact decide_eq_decide.2 (by omega)
   · by_cases i2:i=c.2
     · subst i2;rw [if_neg i1,if_pos rfl,t2];exact decide_eq_decide.2 (by omega)
     · rw [if_neg i1,if_neg i2]
def InB (n:Nat) (c:Nat × Nat):Prop:=c.1<n∧c.2<n∧c.1≠c.2
theorem thr_fold (t:Nat):∀ (cs:List (Nat × Nat)) (l:List α),(∀ c∈cs,InB l.length c)→thr key t (cs.foldl (exch key) l)=cs.foldl cmpB (thr key t l)
 | [],l,_=>rfl
 | c::cs,l,h=>by
   rw [List.foldl_cons,List.foldl_cons]
   have hc:=h c (List.mem_cons_self ..)
   rw [← thr_exch key t l c hc.1 hc.2.1 hc.2.2]
   exact thr_fold t cs _ fun d hd=>by rw [exch_length];exact h d (List.mem_cons_of_mem _ hd)
end
theorem sweepC_in {n k j i:Nat} (hj:0<j) (hn:2*j ∣ n) (hi:i<n) {c:Nat × Nat} (h:sweepC k j i=some c):InB n c:=by
 unfold sweepC at h
 by_cases h1:i / j % 2=1
 · rw [if_pos h1] at h;cases h
 · rw [if_neg h1] at h
   have h2:i % (2*j)<j:=(div_par hj).1 (by omega)
   have h3:i+j<n:=by
    have e:=Nat.div_add_mod i (2*j)
    have h4:2*j*(i / (2*j))+2*j≤n:=dvd_le (Nat.dvd_mul_right _ _) hn (by omega)
    omega
   by_cases h5:i / k % 2=1
   · rw [if_pos h5] at h;cases h;exact ⟨h3,hi,by simp;omega⟩
   · rw [if_neg h5] at h;cases h;exact ⟨hi,h3,by simp;omega⟩
theorem sweep_in {n k j:Nat} (hj:0<j) (hn:2*j ∣ n) {c:Nat × Nat} (h:c∈sweep n k j):InB n c:=by
 obtain ⟨i,hi,hc⟩:=List.mem_filterMap.1 h
 exact sweepC_in hj hn (List.mem_range.1 hi) hc
theorem merges_in {n k:Nat} {c:Nat × Nat}:∀ b,2 ^ b ∣ n→c∈merges n k b→InB n c
 | 0,_,h=>by cases h
 | b+1,hn,h=>by
   have e:2 ^ (b+1)=2*2 ^ b:=by rw [Nat.pow_succ,Nat.mul_comm]
   rw [e] at hn
   rcases List.mem_append.1 h with h | h
   · exact sweep_in (Nat.two_pow_pos b) hn h
   · exact merges_in b (Nat.dvd_trans (Nat.dvd_mul_left _ 2) hn) h
theorem rounds_in {n:Nat} {c:Nat × Nat}:∀ r s,2 ^ (s+r) ∣ n→c∈rounds n s r→InB n c
 | 0,s,_,h=>by cases h
 | r+1,s,hn,h=>by
   rcases List.mem_append.1 h with h | h
   · exact merges_in (s+1) (Nat.dvd_trans (Nat.pow_dvd_pow 2 (by omega)) hn) h
   · exact rounds_in r (s+1) (by rw [show s+1+r=s+(r+1) by omega];exact hn) h
theorem netw_in {m:Nat} {c:Nat × Nat} (h:c∈netw m):InB (2 ^ m) c:=rounds_in m 0 (by rw [Nat.zero_add];exact Nat.dvd_refl _) h
theorem netw_sorts {α:Type} (key:α→Nat) (m:Nat) (l:List α) (hl:l.length=2 ^ m):((netw m).foldl (exch key) l).Pairwise (fun a b=>key a≤key b):=by
 obtain ⟨r,hr⟩:∃ r,r=(netw m).foldl (exch key) l:=⟨_,rfl⟩
 have hrl:r.length=2 ^ m:=by rw [hr,(fold_perm key _ _).length_eq,hl]
 rw [← hr,List.pairwise_iff_getElem]
 intro i j hi hj hij
 have h1:=thr_fold key (key r[i]) (netw m) l (fun c hc=>by rw [hl];exact netw_in hc)
 rw [← hr] at h1
 obtain ⟨a,ha⟩:=netw_01 m (thr key (key r[i]) l)
 rw [← h1] at ha
 have e1:=ha i (by omega)
 have e2:=ha j (by omega)
 unfold thr at e1 e2
 rw [List.getElem?_eq_getElem hi] at e1
 rw [List.getElem?_eq_getElem hj] at e2
 dsimp only at e1 e2
 rw [decide_eq_true (Nat.le_refl _)] at e1
 have e3:=of_decide_eq_true e1.symm
 rw [decide_eq_true (show a≤j by omega)] at e2
 exact of_decide_eq_true e2
section
variable {α:Type} (key:α→Nat)
def ins (x:α):List α→List α
 | []=>[x]
 | y::l=>if key x<key y then x::y::l else y::ins x l
def isort (l:List α):List α:=l.foldl (fun out x=>ins key x out) []
theorem ins_perm (x:α):∀ l,(ins key x l).Perm (x::l)
 | []=>List.Perm.refl _
 | y::l=>by
   unfold ins
   split
   · exact List.Perm.refl _
   · exact ((ins_perm x l).cons y).trans (List.Perm.swap x y l)
theorem ins_sorted (x:α):∀ l,l.Pairwise (fun a b=>key a≤key b)→(ins key x l).Pairwise (fun a b=>key a≤key b)
 | [],_=>by simp [ins]
 | y::l,h=>by
   have h1:=List.pairwise_cons.1 h
   unfold ins
   split
   · rename_i hk
     refine List.pairwise_cons.2 ⟨fun z hz=>?_,h⟩
     rcases List.mem_cons.1 hz with rfl | hz
     · omega
     · have:=h1.1 z hz;omega
   · rename_i hk
     refine List.pairwise_cons.2 ⟨fun z hz=>?_,ins_sorted x l h1.2⟩
     rcases List.mem_cons.1 ((ins_perm key x l).mem_iff.1 hz) with rfl | hz
     · omega
     · exact h1.1 z hz
theorem isort_fold:∀ (l acc:List α),acc.Pairwise (fun a b=>key a≤key b)→(l.foldl (fun out x=>ins key x out) acc).Pairwise (fun a b=>key a≤key b)∧(l.foldl (fun out x=>ins key x out) acc).Perm (l++acc)
 | [],acc,h=>⟨h,List.Perm.refl _⟩
 | x::l,acc,h=>by
   obtain ⟨h1,h2⟩:=isort_fold l _ (ins_sorted key x acc h)
   refine ⟨h1,h2.trans (((ins_perm key x acc).append_left l).trans ?_)⟩
   exact List.perm_middle
theorem isort_sorted (l:List α):(isort key l).Pairwise (fun a b=>key a≤key b):=(isort_fold key l [] List.Pairwise.nil).1
theorem isort_perm (l:List α):(isort key l).Perm l:=by have:=(isort_fold key l [] List.Pairwise.nil).2;rwa [List.append_nil] at this
theorem isort_length (l:List α):(isort key l).length=l.length:=(isort_perm key l).length_eq
theorem sorted_unique {l r:List α} (hi:∀ a∈l,∀ b∈r,key a=key b→a=b) (hl:l.Pairwise (fun a b=>key a≤key b)) (hr:r.Pairwise (fun a b=>key a≤key b)) (hp:l.Perm r):l=r :=
 hp.eq_of_pairwise (le:=fun a b=>key a≤key b) (fun a b ha hb h1 h2=>hi a ha b hb (Nat.le_antisymm h1 h2)) hl hr
end
def rkey (r:Int × Int):Nat:=if r.1=1 then r.2.toNat else 18446744073709551616
def Cln (r:Int × Int):Prop:=(r.1=1∧0≤r.2∧r.2<18446744073709551616)∨r=(0,0)
theorem cln_inj {a b:Int × Int} (ha:Cln a) (hb:Cln b) (h:rkey a=rkey b):a=b:=by
 obtain ⟨a1,a2⟩:=a;obtain ⟨b1,b2⟩:=b
 unfold rkey at h
 rcases ha with ha | ha <;> rcases hb with hb | hb
 · dsimp only at *;obtain ⟨rfl,h1,h2⟩:=ha;obtain ⟨rfl,h3,h4⟩:=hb
   rw [if_pos rfl,if_pos rfl] at h
   rw [show a2=b2 by omega]
 · dsimp only at *;obtain ⟨rfl,h1,h2⟩:=ha
   cases hb
   rw [if_pos rfl,if_neg (by decide)] at h;omega
 · dsimp only at *;obtain ⟨rfl,h1,h2⟩:=hb
   cases ha
   rw [if_pos rfl,if_neg (by decide)] at h;omega
 · rw [ha,hb]
theorem netw_isort (m:Nat) (l:List (Int × Int)) (hc:∀ r∈l,Cln r) (hl:l.length≤2 ^ m) :
 (netw m).foldl (exch rkey) (l++List.replicate (2 ^ m - l.length) (0,0))=isort rkey l++List.replicate (2 ^ m - l.length) (0,0):=by
 have hcr:∀ r∈isort rkey l,Cln r:=fun r hr=>hc r ((isort_perm rkey l).mem_iff.1 hr)
 have hk:∀ r,Cln r→rkey r≤18446744073709551616:=fun r hr=>by
  unfold rkey
  split
  · rcases hr with h | h
    · omega
    · rw [h];decide
  · omega
 have hp:=(fold_perm rkey (netw m) (l++List.replicate (2 ^ m - l.length) (0,0))).trans ((isort_perm rkey l).symm.append_right _)
 refine sorted_unique rkey (fun a ha b hb he=>?_) (netw_sorts rkey m _ (by simp;omega)) ?_ hp
 · have c1:∀ r∈isort rkey l++List.replicate (2 ^ m - l.length) ((0,0):Int × Int),Cln r:=fun r hr=>by
    rcases List.mem_append.1 hr with h | h
    · exact hcr r h
    · rw [List.eq_of_mem_replicate h];exact .inr rfl
   exact cln_inj (c1 a (hp.mem_iff.1 ha)) (c1 b hb) he
 · refine List.pairwise_append.2 ⟨isort_sorted rkey l,?_,fun a ha b hb=>?_⟩
   · exact List.pairwise_replicate.2 (Or.inr (Nat.le_refl _))
   · rw [List.eq_of_mem_replicate hb];exact hk a (hcr a ha)
end
end Go.Proofs.YthnenedoblncjaaGreatDoor
