/- BatchMath -/
import Derived.Test.YtfljlmleiggmjaaGreatDoorPkC09
import Derived.Test.YtfljlmleiggmjaaGreatDoorPkC28
import Derived.Test.YtfljlmleiggmjaaGreatDoorPkC30
set_option maxRecDepth 1000000
set_option maxHeartbeats 8000000
namespace Go.Proofs.YtfljlmleiggmjaaGreatDoor
section
open Go.RowKit
def hrec (gs:List Gr) (q:(Int × Int) × Int):Int × Int:=if (fenceOk gs && memOk gs q.1)=true then (1,q.2) else (0,0)
def hrecs (gs:List Gr) (qs:List ((Int × Int) × Int)):List (Int × Int):=qs.map (hrec gs)
def cntL (rs:List (Int × Int)):Nat:=(rs.map fun r=>r.1.toNat).sum
def bcheck (gs:List Gr) (n:Nat):Int:=if fcheck (gs.map (·.1))≠0 then fcheck (gs.map (·.1)) else if n<1∨4096<n then 6 else 0
def hbatch (gs:List Gr) (qs:List ((Int × Int) × Int)):Ans × Int :=
 if bcheck gs qs.length≠0 then (ansZero,bcheck gs qs.length) else (⟨bif fenceOk gs then 1 else 0,cntL (hrecs gs qs),isort rkey (hrecs gs qs)⟩,0)
def itemEv (gs:List Gr) (n:Nat):List Ev:=(List.range n).flatMap fun (i:Nat)=>(8,(i:Int),0)::fenceMEv gs
def cntEv (n:Nat):List Ev:=(List.range n).map fun (i:Nat)=>(1,(i:Int),0)
def pairEv (cs:List (Nat × Nat)):List Ev:=cs.map fun c=>(3,(c.1:Int),(c.2:Int))
def batchEv (gs:List Gr) (n:Nat):List Ev:=if bcheck gs n≠0 then [] else fenceVEv gs++itemEv gs n++cntEv n++pairEv (netw (lg n))
theorem hrec_cln (gs:List Gr) {q:(Int × Int) × Int} (h:U64 q.2):Cln (hrec gs q):=by
 unfold hrec
 split
 · exact .inl ⟨rfl,h.1,h.2⟩
 · exact .inr rfl
theorem hrecs_cln (gs:List Gr) {qs:List ((Int × Int) × Int)} (h:∀ q∈qs,U64 q.2):∀ r∈hrecs gs qs,Cln r:=by
 intro r hr
 obtain ⟨q,hq,rfl⟩:=List.mem_map.1 hr
 exact hrec_cln gs (h q hq)
theorem cln_u64 {r:Int × Int} (h:Cln r):U64 r.1∧U64 r.2:=by
 rcases h with ⟨h1,h2,h3⟩ | h
 · exact ⟨by rw [h1];exact ⟨by decide,by decide⟩,h2,h3⟩
 · rw [h];exact ⟨⟨by decide,by decide⟩,by decide,by decide⟩
theorem cntL_perm {l r:List (Int × Int)} (h:l.Perm r):cntL l=cntL r:=(h.map _).sum_nat
theorem cntL_le:∀ l:List (Int × Int),(∀ r∈l,Cln r)→cntL l≤l.length
 | [],_=>Nat.le_refl _
 | r::l,h=>by
   have h1:=cntL_le l fun x hx=>h x (List.mem_cons_of_mem _ hx)
   have h2:r.1.toNat≤1:=by
    rcases h r (List.mem_cons_self ..) with ⟨h,_⟩ | h
    · rw [h];decide
    · rw [h];decide
   unfold cntL at h1 ⊢
   rw [List.map_cons,List.sum_cons,List.length_cons]
   omega
theorem dead_of {a r:Int × Int} (hr:Cln r) (ha:a=(0,0)) (h:rkey a≤rkey r):r=(0,0):=by
 rcases hr with ⟨h1,h2,h3⟩ | h1
 · rw [ha] at h
   unfold rkey at h
   rw [if_neg (by decide),if_pos h1] at h
   omega
 · exact h1
theorem okFrom_dead (c:Int):∀ (l:List (Int × Int)) (i:Nat),(∀ r∈l,r=(0,0))→c≤(i:Int)→okFrom c i l=true
 | [],_,_,_=>rfl
 | r::l,i,h,hc=>by
   have h1:=okFrom_dead c l (i+1) (fun x hx=>h x (List.mem_cons_of_mem _ hx)) (by omega)
   have h2:=h r (List.mem_cons_self ..)
   subst h2
   unfold okFrom recOk
   rw [h1,if_neg (by omega)]
   rfl
theorem cntL_dead:∀ (l:List (Int × Int)),(∀ r∈l,r=(0,0))→cntL l=0
 | [],_=>rfl
 | r::l,h=>by
   have h1:=cntL_dead l fun x hx=>h x (List.mem_cons_of_mem _ hx)
   have h2:=h r (List.mem_cons_self ..)
   subst h2
   unfold cntL at h1 ⊢
   rw [List.map_cons,List.sum_cons,h1]
   rfl
theorem okFrom_sorted:∀ (l:List (Int × Int)) (i:Nat),(∀ r∈l,Cln r)→l.Pairwise (fun a b=>rkey a≤rkey b)→okFrom ((i+cntL l:Nat):Int) i l=true
 | [],_,_,_=>rfl
 | r::l,i,hc,hs=>by
   have hs':=List.pairwise_cons.1 hs
   have hcl:∀ x∈l,Cln x:=fun x hx=>hc x (List.mem_cons_of_mem _ hx)
   rcases hc r (List.mem_cons_self ..) with ⟨h1,h2,h3⟩ | h1
   · have ih:=okFrom_sorted l (i+1) hcl hs'.2
     have e:i+cntL (r::l)=i+1+cntL l:=by
      unfold cntL
      rw [List.map_cons,List.sum_cons,h1]
      show i+(1+_)=_
      omega
     rw [e]
     unfold okFrom recOk
     rw [if_pos (by omega),ih,h1]
     rfl
   · have hd:∀ x∈r::l,x=(0,0):=fun x hx=>by
      rcases List.mem_cons.1 hx with rfl | hx
      · exact h1
      · exact dead_of (hcl x hx) h1 (hs'.1 x hx)
     rw [cntL_dead _ hd]
     exact okFrom_dead _ _ _ hd (by omega)
theorem cntL_sort (l:List (Int × Int)):cntL (isort rkey l)=cntL l:=cntL_perm (isort_perm rkey l)
theorem batch_isAns {gs:List Gr} {qs:List ((Int × Int) × Int)} (hq:∀ q∈qs,U64 q.2) (h:bcheck gs qs.length=0) :
 isAns 5 (qs.length:Int) (hbatch gs qs).1.val (hbatch gs qs).1.cnt (hbatch gs qs).1.recs=true:=by
 have hb:hbatch gs qs=(⟨bif fenceOk gs then 1 else 0,cntL (hrecs gs qs),isort rkey (hrecs gs qs)⟩,0):=by unfold hbatch;rw [if_neg (by simpa using h)]
 have hcl:=hrecs_cln gs hq
 have hle:=cntL_le _ hcl
 have hlen:(hrecs gs qs).length=qs.length:=by unfold hrecs;rw [List.length_map]
 rw [hb]
 dsimp only
 have hok:=okFrom_sorted (isort rkey (hrecs gs qs)) 0 (fun r hr=>hcl r ((isort_perm rkey _).mem_iff.1 hr)) (isort_sorted rkey _)
 rw [cntL_sort,Nat.zero_add] at hok
 unfold isAns
 rw [hok,isort_length,hlen]
 cases hv:fenceOk gs
 · have h0:cntL (hrecs gs qs)=0:=cntL_dead _ fun r hr=>by
    obtain ⟨q,_,rfl⟩:=List.mem_map.1 hr
    unfold hrec;rw [hv];rfl
   rw [h0]
   simp [most,aLim]
 · simp [most,aLim]
   omega
end
end Go.Proofs.YtfljlmleiggmjaaGreatDoor
