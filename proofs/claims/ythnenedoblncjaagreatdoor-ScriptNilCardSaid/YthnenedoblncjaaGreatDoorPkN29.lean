/- RecRow -/
import Derived.ChangeAlike
import Derived.Test.YthnenedoblncjaaGreatDoorPkN27
import Derived.Test.YthnenedoblncjaaGreatDoorPkN28
set_option maxRecDepth 1000000
set_option maxHeartbeats 8000000
namespace Go.Proofs.YthnenedoblncjaaGreatDoor
section
open Go.RowKit
def VY(l:List (Int × Int)):Array Value:=(ZE l).toArray
theorem Vf(l:List (Int × Int)):(VY l).size=l.length*2:=by
 unfold VY;rw [List.size_toArray];exact Zm (fun p:Int × Int=>[Value.int .u64 p.1,.int .u64 p.2]) 2 (fun _=>rfl) l
theorem Ym{l:List (Int × Int)}{k:Nat}{r:Int × Int}(h:l[k]?=some r):(VY l)[k*2]?=some (.int .u64 r.1)/\(VY l)[k*2+1]?=some (.int .u64 r.2):=by
 have h0:=flat_get (fun p:Int × Int=>[Value.int .u64 p.1,.int .u64 p.2]) 2 (fun _=>rfl) l k r h;have e0:=h0 0 (by omega);have e1:=h0 1 (by omega);rw [Nat.add_zero] at e0;unfold VY;rw [List.getElem?_toArray,List.getElem?_toArray];exact ⟨e0,e1⟩
theorem QG{cs:Array Value}{l:List (Int × Int)}(hs:cs.size=l.length*2)(h:∀ k r,l[k]?=some r->cs[k*2]?=some (.int .u64 r.1)/\cs[k*2+1]?=some (.int .u64 r.2)):cs=VY l:=by
 refine Array.ext_getElem? fun i=>?_
 by_cases hi:i<l.length*2
 · have hk:i / 2<l.length:=(by omega);have h1:=h (i / 2) l[i / 2] (List.getElem?_eq_getElem hk);have h2:=Ym (List.getElem?_eq_getElem hk);rcases Nat.mod_two_eq_zero_or_one i with hm|hm
   · have e:i=i / 2*2:=(by omega);rw [e,h1.1,h2.1]
   · have e:i=i / 2*2+1:=(by omega);rw [e,h1.2,h2.2]
 · rw [Array.getElem?_eq_none (by omega),Array.getElem?_eq_none (by rw [Vf];omega)]
theorem D8 {w w':World} {g lo hi:Nat} {t:TypeId} {l:List (Int × Int)} {x y:Int × Int} (hx:l[lo]?=some x) (hy:l[hi]?=some y) (hne:lo≠hi)
 (h:xM w g t (VY l) (lo*2) (hi*2) (if ZC y<ZC x then y else x) (if ZC y<ZC x then x else y) w'):Z6 w' g t (VY (Vn ZC l (lo,hi)))/\w.grownBy w' (some g):=by
 obtain ⟨cs,B,s1,a1,a2,a3,a4,a5,hg⟩:=h;have hlo:lo<l.length:=(List.getElem?_eq_some_iff.1 hx).1;have hhi:hi<l.length:=(List.getElem?_eq_some_iff.1 hy).1;refine ⟨?_,hg⟩;have e:cs=VY (Vn ZC l (lo,hi)):=by
  refine QG (by rw [s1,Vf,Uq]) fun k r hk=>?_;unfold Vn at hk;dsimp only at hk;rw [hx,hy] at hk;dsimp only at hk
  by_cases hlt:ZC y<ZC x
  · rw [if_pos hlt] at hk a1 a2 a3 a4
    by_cases k1:k=hi
    · subst k1;rw [List.getElem?_set_self (by rw [List.length_set];exact hhi)] at hk;cases hk;exact ⟨a3,a4⟩
    · rw [List.getElem?_set_ne (Ne.symm k1)] at hk
      by_cases k2:k=lo
      · subst k2;rw [List.getElem?_set_self hlo] at hk;cases hk;exact ⟨a1,a2⟩
      · rw [List.getElem?_set_ne (Ne.symm k2)] at hk;have h2:=Ym hk;exact ⟨(a5 _ (by omega) (by omega) (by omega) (by omega)).trans h2.1,(a5 _ (by omega) (by omega) (by omega) (by omega)).trans h2.2⟩
  · rw [if_neg hlt] at hk a1 a2 a3 a4
    by_cases k1:k=hi
    · subst k1;rw [hy] at hk;cases hk;exact ⟨a3,a4⟩
    · by_cases k2:k=lo
      · subst k2;rw [hx] at hk;cases hk;exact ⟨a1,a2⟩
      · have h2:=Ym hk;exact ⟨(a5 _ (by omega) (by omega) (by omega) (by omega)).trans h2.1,(a5 _ (by omega) (by omega) (by omega) (by omega)).trans h2.2⟩
 rw [<- e];exact B
theorem Fg(l:List (Int × Int))(N:Nat)(h:l.length<=N):
 ((madeCells #[.int .u64 0,.int .u64 0] (N*2)).toList.take 0++ZE l++(madeCells #[.int .u64 0,.int .u64 0] (N*2)).toList.drop (0+(ZE l).length)).toArray=VY (l++List.replicate (N - l.length) (0,0)):=by
 have hl:(ZE l).length=l.length*2:=Zm (fun p:Int × Int=>[Value.int .u64 p.1,.int .u64 p.2]) 2 (fun _=>rfl) l
 have hz:∀ i,i<N*2->(madeCells #[.int .u64 0,.int .u64 0] (N*2))[i]?=some (.int .u64 0):=fun i hi=>by
  have:i % 2=0\/i % 2=1:=by omega
  unfold madeCells;rw [Array.getElem?_map,Array.getElem?_range];rw [if_pos hi];rcases this with h|h <;> simp [h]
 refine QG (by simp [size_madeCells,hl];omega) fun k r hk=>?_;rw [List.take_zero,List.nil_append,Nat.zero_add,List.getElem?_toArray,List.getElem?_toArray]
 by_cases hkl:k<l.length
 · rw [List.getElem?_append_left hkl] at hk;have h0:=Ym hk;unfold VY at h0;rw [List.getElem?_toArray,List.getElem?_toArray] at h0;rw [List.getElem?_append_left (by omega),List.getElem?_append_left (by omega)];exact h0
 · rw [List.getElem?_append_right (by omega)] at hk;have hk2:=List.getElem?_eq_some_iff.1 hk;obtain ⟨hk3,hk4⟩:=hk2;rw [List.length_replicate] at hk3;rw [List.getElem_replicate] at hk4;subst hk4;rw [List.getElem?_append_right (by omega),List.getElem?_append_right (by omega),List.getElem?_drop,List.getElem?_drop,Array.getElem?_toList,Array.getElem?_toList];exact ⟨hz _ (by omega),hz _ (by omega)⟩
theorem Z6.same{w:World}{g:Nat}{t:TypeId}{cs:Array Value}(h:Z6 w g t cs){i:Nat}{u:Value}(hi:cs[i]?=some u):Z6 (w.setCell ⟨g,i,none⟩ u) g t cs:=by
 have h1:=h.set i u;have e:cs.setIfInBounds i u=cs:=by
  refine Array.ext_getElem? fun j=>?_;rw [Array.getElem?_setIfInBounds]
  by_cases hj:i=j
  · subst hj;rw [if_pos rfl,if_pos (Array.getElem?_eq_some_iff.1 hi).1,hi]
  · rw [if_neg hj]
 rw [e] at h1;exact h1
theorem KR(l:List (Int × Int)):∀ v∈ZE l,v.oneCell'=true:=by
 intro v hv;obtain ⟨r,_,hr⟩:=List.mem_flatMap.1 hv;simp at hr;rcases hr with rfl|rfl <;> rfl
end
end Go.Proofs.YthnenedoblncjaaGreatDoor