/- ConvexMath -/
import Derived.Test.YtpnoofphfomjoaaGreatDoorPkM07
import Derived.Test.YtpnoofphfomjoaaGreatDoorPkM25
import Derived.Test.YtpnoofphfomjoaaGreatDoorPkM34
import Derived.Test.YtpnoofphfomjoaaGreatDoorPkC02
set_option maxRecDepth 1000000
set_option maxHeartbeats 8000000
namespace Go.Proofs.YtpnoofphfomjoaaGreatDoor
section
open Go.RowKit
theorem md {a n:Nat} (h:a<2*n):(a<n∧a % n=a)∨(n≤a∧a % n=a - n):=by
 by_cases h1:a<n
 · exact .inl ⟨h1,Nat.mod_eq_of_lt h1⟩
 · refine .inr ⟨by omega,?_⟩
   rw [Nat.mod_eq_sub_mod (by omega),Nat.mod_eq_of_lt (by omega)]
theorem innerF_iff (s:Int) (ps:List Pt) (i:Nat) (v:Bool):∀ k,innerF s ps i v k=true ↔ v=true∧∀ j<k,okE s ps i j=true
 | 0=>by
   unfold innerF
   simp
 | k+1=>by
   rw [innerF_succ,Bool.and_eq_true,innerF_iff s ps i v k]
   constructor
   · rintro ⟨⟨h1,h2⟩,h3⟩
     refine ⟨h1,fun j hj=>?_⟩
     rcases Nat.lt_succ_iff_lt_or_eq.1 hj with h | rfl
     · exact h2 j h
     · exact h3
   · rintro ⟨h1,h2⟩
     exact ⟨⟨h1,fun j hj=>h2 j (by omega)⟩,h2 k (by omega)⟩
theorem vF_iff (s:Int) (ps:List Pt):∀ k,vF s ps (List.range k)=true ↔ s≠0∧∀ i<k,∀ j<ps.length,okE s ps i j=true
 | 0=>by
   unfold vF
   simp
 | k+1=>by
   rw [List.range_succ,vF_snoc,innerF_iff,vF_iff s ps k]
   constructor
   · rintro ⟨⟨h1,h2⟩,h3⟩
     refine ⟨h1,fun i hi=>?_⟩
     rcases Nat.lt_succ_iff_lt_or_eq.1 hi with h | rfl
     · exact h2 i h
     · exact h3
   · rintro ⟨h1,h2⟩
     exact ⟨⟨h1,fun i hi=>h2 i (by omega)⟩,h2 k (by omega)⟩
def Cvx (s:Int) (ps:List Pt):Prop:=s≠0∧∀ i<ps.length,∀ j<ps.length,okE s ps i j=true
theorem cvx_orient {s:Int} {ps:List Pt} (h3:3≤ps.length) (h64:ps.length≤64) (h:Cvx s ps):orientV ps=s:=by
 have h1:=h.2 0 (by omega) 2 (by omega)
 unfold okE at h1
 rw [Nat.mod_eq_of_lt (by omega:0+1<ps.length)] at h1
 unfold orientV
 rw [if_pos ⟨h3,h64⟩]
 simpa using h1
theorem validV_cvx {ps:List Pt} (h3:3≤ps.length) (h64:ps.length≤64):validV ps=true ↔ Cvx (orientV ps) ps:=by
 unfold validV edgeN
 rw [if_pos ⟨h3,h64⟩,vF_iff]
 rfl
theorem locF1 (s:Int) (ps:List Pt) (p:Pt):∀ k,(locF s ps p (List.range (k+1))).1=true ↔ ∃ i,i<k+1∧sideE s ps p i<0
 | 0=>by
   have e:List.range 1=[]++[0]:=rfl
   rw [e,locF_snoc]
   simp
 | k+1=>by
   rw [List.range_succ,locF_snoc]
   have h:=locF1 s ps p k
   dsimp only
   rw [show decide (k+1=0)=false from decide_eq_false (by omega),cond_false,Bool.or_eq_true,h,decide_eq_true_iff]
   constructor
   · rintro (⟨i,h1,h2⟩ | h1)
     · exact ⟨i,by omega,h2⟩
     · exact ⟨k+1,by omega,h1⟩
   · rintro ⟨i,h1,h2⟩
     rcases Nat.lt_succ_iff_lt_or_eq.1 h1 with h | rfl
     · exact .inl ⟨i,h,h2⟩
     · exact .inr h2
theorem locF2 (s:Int) (ps:List Pt) (p:Pt):∀ k,(locF s ps p (List.range k)).2=true ↔ ∃ i,i<k∧sideE s ps p i=0
 | 0=>by
   unfold locF
   simp
 | k+1=>by
   rw [List.range_succ,locF_snoc]
   have h:=locF2 s ps p k
   dsimp only
   rw [Bool.or_eq_true,h,decide_eq_true_iff]
   constructor
   · rintro (⟨i,h1,h2⟩ | h1)
     · exact ⟨i,by omega,h2⟩
     · exact ⟨k,by omega,h1⟩
   · rintro ⟨i,h1,h2⟩
     rcases Nat.lt_succ_iff_lt_or_eq.1 h1 with h | rfl
     · exact .inl ⟨i,h,h2⟩
     · exact .inr h2
def Tn (ps ps':List Pt) (ep:Int):Prop:=ps'.length=ps.length∧(ep=1∨ep=-1)∧∃ f g:Nat→Nat,∀ i,i<ps.length →
 f i<ps.length∧g i<ps.length∧(∀ c,orientD (ptAt ps' i) (ptAt ps' ((i+1) % ps.length)) c=ep*orientD (ptAt ps (f i)) (ptAt ps ((f i+1) % ps.length)) c)∧ptAt ps' i=ptAt ps (g i) ∧
 ∀ j,j<ps.length→j≠i→j≠(i+1) % ps.length→g j≠f i∧g j≠(f i+1) % ps.length
theorem sign_ep {ep:Int} (h:ep=1∨ep=-1) (x:Int):(ep*x).sign=ep*x.sign:=by
 rcases h with rfl | rfl
 · rw [Int.one_mul,Int.one_mul]
 · rw [Int.neg_mul,Int.one_mul,Int.neg_mul,Int.one_mul,Int.sign_neg]
theorem ep_sq {ep:Int} (h:ep=1∨ep=-1):ep*ep=1:=by rcases h with rfl | rfl <;> rfl
theorem tn_cvx {ps ps':List Pt} {ep s:Int} (h:Tn ps ps' ep) (hc:Cvx s ps):Cvx (ep*s) ps':=by
 obtain ⟨hl,he,f,g,hf⟩:=h
 refine ⟨fun h0=>hc.1 ?_,fun i hi j hj=>?_⟩
 · rcases he with rfl | rfl <;> omega
 · rw [hl] at hi hj
   obtain ⟨f1,f2,f3,f4,f5⟩:=hf i hi
   unfold okE
   rw [hl]
   by_cases h1:j=i
   · rw [decide_eq_true h1];rfl
   by_cases h2:j=(i+1) % ps.length
   · rw [decide_eq_true h2,Bool.or_true];rfl
   obtain ⟨n1,n2⟩:=f5 j hj h1 h2
   have h3:=hc.2 (f i) f1 (g j) (hf j hj).2.1
   unfold okE at h3
   rw [decide_eq_false n1,decide_eq_false n2,Bool.or_false,Bool.false_or,decide_eq_true_iff] at h3
   rw [f3,(hf j hj).2.2.2.1,sign_ep he,h3,decide_eq_true (rfl:ep*s=ep*s),Bool.or_true]
theorem tn_side {ps ps':List Pt} {ep:Int} (h:Tn ps ps' ep) (s:Int) (p:Pt) {i:Nat} (hi:i<ps'.length):∃ k,k<ps.length∧sideE (ep*s) ps' p i=sideE s ps p k:=by
 obtain ⟨hl,he,f,g,hf⟩:=h
 rw [hl] at hi
 obtain ⟨f1,f2,f3,f4,f5⟩:=hf i hi
 refine ⟨f i,f1,?_⟩
 unfold sideE
 rw [hl,f3,sign_ep he]
 have:=ep_sq he
 rcases he with rfl | rfl
 · rw [Int.one_mul,Int.one_mul]
 · simp only [Int.neg_mul,Int.mul_neg,Int.one_mul,Int.neg_neg]
theorem bool_ext {a b:Bool} (h:a=true ↔ b=true):a=b:=by cases a <;> cases b <;> simp_all
theorem tn_convexA {ps ps':List Pt} {ep:Int} (h3:3≤ps.length) (h64:ps.length≤64) (h:Tn ps ps' ep) (h':Tn ps' ps ep) (p:Pt):convexA ps' p=convexA ps p:=by
 have hl:=h.1
 have he:=h.2.1
 have h3':3≤ps'.length:=by omega
 have h64':ps'.length≤64:=by omega
 have hv:validV ps'=validV ps:=by
  apply bool_ext
  rw [validV_cvx h3' h64',validV_cvx h3 h64]
  constructor
  · intro hc
    have h1:=tn_cvx h' hc
    rw [cvx_orient h3 h64 h1]
    exact h1
  · intro hc
    have h1:=tn_cvx h hc
    rw [cvx_orient h3' h64' h1]
    exact h1
 unfold convexA
 rw [hv]
 cases hvp:validV ps with
 | false=>rfl
 | true =>
   rw [cond_true,cond_true]
   have hc:=(validV_cvx h3 h64).1 hvp
   have ho:orientV ps'=ep*orientV ps:=cvx_orient h3' h64' (tn_cvx h hc)
   have ho':orientV ps=ep*orientV ps':=by rw [ho,← Int.mul_assoc,ep_sq he,Int.one_mul]
   obtain ⟨n,hn⟩:∃ n,ps.length=n+1:=⟨ps.length - 1,by omega⟩
   have hn':ps'.length=n+1:=by omega
   have e:edgeN (n+1)=n+1:=by unfold edgeN;rw [if_pos (by omega)]
   have e1:(locF (orientV ps') ps' p (List.range (n+1))).1=(locF (orientV ps) ps p (List.range (n+1))).1:=by
    apply bool_ext
    rw [locF1,locF1]
    constructor
    · rintro ⟨i,hi,hs⟩
      obtain ⟨k,hk,hk2⟩:=tn_side h (orientV ps) p (i:=i) (by omega)
      rw [← ho] at hk2
      exact ⟨k,by omega,by rw [← hk2];exact hs⟩
    · rintro ⟨i,hi,hs⟩
      obtain ⟨k,hk,hk2⟩:=tn_side h' (orientV ps') p (i:=i) (by omega)
      rw [← ho'] at hk2
      exact ⟨k,by omega,by rw [← hk2];exact hs⟩
   have e2:(locF (orientV ps') ps' p (List.range (n+1))).2=(locF (orientV ps) ps p (List.range (n+1))).2:=by
    apply bool_ext
    rw [locF2,locF2]
    constructor
    · rintro ⟨i,hi,hs⟩
      obtain ⟨k,hk,hk2⟩:=tn_side h (orientV ps) p (i:=i) (by omega)
      rw [← ho] at hk2
      exact ⟨k,by omega,by rw [← hk2];exact hs⟩
    · rintro ⟨i,hi,hs⟩
      obtain ⟨k,hk,hk2⟩:=tn_side h' (orientV ps') p (i:=i) (by omega)
      rw [← ho'] at hk2
      exact ⟨k,by omega,by rw [← hk2];exact hs⟩
   unfold locV
   rw [hn,hn',e,e1,e2]
theorem ptAt_turn (ps:List Pt) {k j:Nat} (hk:k≤ps.length) (hj:j<ps.length):ptAt (ps.drop k++ps.take k) j=ptAt ps ((j+k) % ps.length):=by
 unfold ptAt
 rw [List.getD_eq_getElem?_getD,List.getD_eq_getElem?_getD]
 congr 1
 by_cases h:j<ps.length - k
 · rw [List.getElem?_append_left (by rw [List.length_drop];exact h),List.getElem?_drop,Nat.mod_eq_of_lt (by omega),Nat.add_comm]
 · rw [List.getElem?_append_right (by rw [List.length_drop];omega),List.length_drop,List.getElem?_take]
   rcases md (a:=j+k) (n:=ps.length) (by omega) with ⟨h1,h2⟩ | ⟨h1,h2⟩
   · omega
   · rw [h2,if_pos (by omega)]
     congr 1
     omega
theorem tn_turn (ps:List Pt) (h3:3≤ps.length) {k:Nat} (hk:k≤ps.length):Tn ps (ps.drop k++ps.take k) 1:=by
 refine ⟨by simp;omega,.inl rfl,fun i=>(i+k) % ps.length,fun i=>(i+k) % ps.length,fun i hi=>?_⟩
 have hm1:=Nat.mod_lt (i+k) (by omega:ps.length > 0)
 have hm2:=Nat.mod_lt (i+1) (by omega:ps.length > 0)
 refine ⟨hm1,hm1,fun c=>?_,ptAt_turn ps hk hi,fun j hj h1 h2=>?_⟩
 · rw [Int.one_mul,ptAt_turn ps hk hi,ptAt_turn ps hk hm2]
   have e:((i+1) % ps.length+k) % ps.length=((i+k) % ps.length+1) % ps.length:=by
    rw [Nat.mod_add_mod,Nat.mod_add_mod]
    congr 1
    omega
   rw [e]
 · have q1:=md (a:=i+k) (n:=ps.length) (by omega)
   have q2:=md (a:=j+k) (n:=ps.length) (by omega)
   have q3:=md (a:=i+1) (n:=ps.length) (by omega)
   have q4:=md (a:=(i+k) % ps.length+1) (n:=ps.length) (by omega)
   dsimp only
   constructor <;> omega
theorem ptAt_rev (ps:List Pt) {j:Nat} (hj:j<ps.length):ptAt ps.reverse j=ptAt ps (ps.length - 1 - j):=by
 unfold ptAt
 rw [List.getD_eq_getElem?_getD,List.getD_eq_getElem?_getD,List.getElem?_reverse hj]
theorem orientD_swap (a b c:Pt):orientD b a c=-1*orientD a b c:=by
 unfold orientD crossD
 grind
theorem tn_rev (ps:List Pt) (h3:3≤ps.length):Tn ps ps.reverse (-1):=by
 refine ⟨List.length_reverse,.inr rfl,fun i=>(2*ps.length - 2 - i) % ps.length,fun i=>ps.length - 1 - i,fun i hi=>?_⟩
 have hm1:=Nat.mod_lt (2*ps.length - 2 - i) (by omega:ps.length > 0)
 have hm2:=Nat.mod_lt (i+1) (by omega:ps.length > 0)
 have q1:=md (a:=2*ps.length - 2 - i) (n:=ps.length) (by omega)
 have q3:=md (a:=i+1) (n:=ps.length) (by omega)
 have q4:=md (a:=(2*ps.length - 2 - i) % ps.length+1) (n:=ps.length) (by omega)
 refine ⟨hm1,by dsimp only;omega,fun c=>?_,ptAt_rev ps hi,fun j hj h1 h2=>?_⟩
 · rw [ptAt_rev ps hi,ptAt_rev ps hm2,orientD_swap]
   have e1:ps.length - 1 - (i+1) % ps.length=(2*ps.length - 2 - i) % ps.length:=by omega
   have e2:ps.length - 1 - i=((2*ps.length - 2 - i) % ps.length+1) % ps.length:=by omega
   dsimp only
   rw [e1,e2]
 · dsimp only
   constructor <;> omega
theorem convexA_turn (ps:List Pt) (h3:3≤ps.length) (h64:ps.length≤64) {k:Nat} (hk:k≤ps.length) (p:Pt):convexA (ps.drop k++ps.take k) p=convexA ps p:=by
 refine tn_convexA h3 h64 (tn_turn ps h3 hk) ?_ p
 have hl:(ps.drop k++ps.take k).length=ps.length:=by simp;omega
 have h:=tn_turn (ps.drop k++ps.take k) (by omega) (k:=ps.length - k) (by omega)
 have e:(ps.drop k++ps.take k).drop (ps.length - k)++(ps.drop k++ps.take k).take (ps.length - k)=ps:=by
  rw [List.drop_left' (by rw [List.length_drop]),List.take_left' (by rw [List.length_drop]),List.take_append_drop]
 rw [e] at h
 exact h
theorem convexA_rev (ps:List Pt) (h3:3≤ps.length) (h64:ps.length≤64) (p:Pt):convexA ps.reverse p=convexA ps p:=by
 refine tn_convexA h3 h64 (tn_rev ps h3) ?_ p
 have h:=tn_rev ps.reverse (by rw [List.length_reverse];exact h3)
 rw [List.reverse_reverse] at h
 exact h
end
end Go.Proofs.YtpnoofphfomjoaaGreatDoor
