/- BatchMath -/
import Derived.Test.YtfljlmleiggmjaaGreatDoorPkD07
import Derived.Test.YtfljlmleiggmjaaGreatDoorPkD27
import Derived.Test.YtfljlmleiggmjaaGreatDoorPkD28
set_option maxRecDepth 1000000
set_option maxHeartbeats 8000000
namespace Go.Proofs.YtfljlmleiggmjaaGreatDoor
section
open Go.RowKit
def hrec(gs:List Gr)(q:(Int × Int) × Int):Int × Int:=if (Y7 gs && XD gs q.1)=true then (1,q.2) else (0,0)
def Y6(gs:List Gr)(qs:List ((Int × Int) × Int)):List (Int × Int):=qs.map (hrec gs)
def Xt(rs:List (Int × Int)):Nat:=(rs.map fun r=>r.1.toNat).sum
def Yf(gs:List Gr)(n:Nat):Int:=if Zk (gs.map (·.1))≠0 then Zk (gs.map (·.1)) else if n<1\/4096<n then 6 else 0
def YL(gs:List Gr)(qs:List ((Int × Int) × Int)):lY × Int :=
 if Yf gs qs.length≠0 then (Wq,Yf gs qs.length) else (⟨bif Y7 gs then 1 else 0,Xt (Y6 gs qs),XO Zh (Y6 gs qs)⟩,0)
def XI(gs:List Gr)(n:Nat):List Ev:=(List.range n).flatMap fun (i:Nat)=>(8,(i:Int),0)::YC gs
def XT(n:Nat):List Ev:=(List.range n).map fun (i:Nat)=>(1,(i:Int),0)
def Y3(cs:List (Nat × Nat)):List Ev:=cs.map fun c=>(3,(c.1:Int),(c.2:Int))
def Xg(gs:List Gr)(n:Nat):List Ev:=if Yf gs n≠0 then [] else Ze gs++XI gs n++XT n++Y3 (YZ (lg n))
theorem pK(gs:List Gr){q:(Int × Int) × Int}(h:Uf q.2):Pp (hrec gs q):=by
 unfold hrec;split
 · exact .inl ⟨rfl,h.1,h.2⟩
 · exact .inr rfl
theorem QH(gs:List Gr){qs:List ((Int × Int) × Int)}(h:∀ q∈qs,Uf q.2):∀ r∈Y6 gs qs,Pp r:=by
 intro r hr;obtain ⟨q,hq,rfl⟩:=List.mem_map.1 hr;exact pK gs (h q hq)
theorem Fw{r:Int × Int}(h:Pp r):Uf r.1/\Uf r.2:=by
 rcases h with ⟨h1,h2,h3⟩|h
 · exact ⟨by rw [h1];exact ⟨by decide,by decide⟩,h2,h3⟩
 · rw [h];exact ⟨⟨by decide,by decide⟩,by decide,by decide⟩
theorem uU{l r:List (Int × Int)}(h:l.Perm r):Xt l=Xt r:=(h.map _).sum_nat
theorem QC:∀ l:List (Int × Int),(∀ r∈l,Pp r)->Xt l<=l.length
 | [],_=>Nat.le_refl _
 | r::l,h=>by
   have h1:=QC l fun x hx=>h x (List.mem_cons_of_mem _ hx);have h2:r.1.toNat<=1:=by
    rcases h r (List.mem_cons_self ..) with ⟨h,_⟩|h
    · rw [h];decide
    · rw [h];decide
   unfold Xt at h1 ⊢;rw [List.map_cons,List.sum_cons,List.length_cons];omega
theorem iq{a r:Int × Int}(hr:Pp r)(ha:a=(0,0))(h:Zh a<=Zh r):r=(0,0):=by
 rcases hr with ⟨h1,h2,h3⟩|h1
 · rw [ha] at h;unfold Zh at h;rw [if_neg (by decide),if_pos h1] at h;omega
 · exact h1
theorem M0(c:Int):∀ (l:List (Int × Int)) (i:Nat),(∀ r∈l,r=(0,0))->c<=(i:Int)->WK c i l=true
 | [],_,_,_=>rfl
 | r::l,i,h,hc=>by
   have h1:=M0 c l (i+1) (fun x hx=>h x (List.mem_cons_of_mem _ hx)) (by omega);have h2:=h r (List.mem_cons_self ..);subst h2;unfold WK WV;rw [h1,if_neg (by omega)];rfl
theorem Nz:∀ (l:List (Int × Int)),(∀ r∈l,r=(0,0))->Xt l=0
 | [],_=>rfl
 | r::l,h=>by
   have h1:=Nz l fun x hx=>h x (List.mem_cons_of_mem _ hx);have h2:=h r (List.mem_cons_self ..);subst h2;unfold Xt at h1 ⊢;rw [List.map_cons,List.sum_cons,h1];rfl
theorem Qi:∀ (l:List (Int × Int)) (i:Nat),(∀ r∈l,Pp r)->l.Pairwise (fun a b=>Zh a<=Zh b)->WK ((i+Xt l:Nat):Int) i l=true
 | [],_,_,_=>rfl
 | r::l,i,hc,hs=>by
   have hs':=List.pairwise_cons.1 hs;have hcl:∀ x∈l,Pp x:=fun x hx=>hc x (List.mem_cons_of_mem _ hx);rcases hc r (List.mem_cons_self ..) with ⟨h1,h2,h3⟩|h1
   · have ih:=Qi l (i+1) hcl hs'.2;have e:i+Xt (r::l)=i+1+Xt l:=by
      unfold Xt;rw [List.map_cons,List.sum_cons,h1];show i+(1+_)=_;omega
     rw [e];unfold WK WV;rw [if_pos (by omega),ih,h1];rfl
   · have hd:∀ x∈r::l,x=(0,0):=fun x hx=>by
      rcases List.mem_cons.1 hx with rfl|hx
      · exact h1
      · exact iq (hcl x hx) h1 (hs'.1 x hx)
     rw [Nz _ hd];exact M0 _ _ _ hd (by omega)
theorem uV(l:List (Int × Int)):Xt (XO Zh l)=Xt l:=uU (V3 Zh l)
theorem CX{gs:List Gr}{qs:List ((Int × Int) × Int)}(hq:∀ q∈qs,Uf q.2)(h:Yf gs qs.length=0):
 Wm 5 (qs.length:Int) (YL gs qs).1.val (YL gs qs).1.cnt (YL gs qs).1.recs=true:=by
 have hb:YL gs qs=(⟨bif Y7 gs then 1 else 0,Xt (Y6 gs qs),XO Zh (Y6 gs qs)⟩,0):=by unfold YL;rw [if_neg (by simpa using h)]
 have hcl:=QH gs hq;have hle:=QC _ hcl;have hlen:(Y6 gs qs).length=qs.length:=by unfold Y6;rw [List.length_map]
 rw [hb];dsimp only;have hok:=Qi (XO Zh (Y6 gs qs)) 0 (fun r hr=>hcl r ((V3 Zh _).mem_iff.1 hr)) (OJ Zh _);rw [uV,Nat.zero_add] at hok;unfold Wm;rw [hok,UK,hlen];cases hv:Y7 gs
 · have h0:Xt (Y6 gs qs)=0:=Nz _ fun r hr=>by
    obtain ⟨q,_,rfl⟩:=List.mem_map.1 hr;unfold hrec;rw [hv];rfl
   rw [h0];simp [most,Nw]
 · simp [most,Nw];omega
end
end Go.Proofs.YtfljlmleiggmjaaGreatDoor