/- Num2 -/
import Derived.Test.YtfljlmleiggmjaaGreatDoorPkB16
set_option maxRecDepth 1000000
set_option maxHeartbeats 8000000
namespace Go.Proofs.YtfljlmleiggmjaaGreatDoor
section
open Go.RowKit
theorem dCs_length (l:List Nat):(dCs l).length=l.length:=by simp [dCs]
theorem dCs_app (a b:List Nat):dCs (a++b)=dCs a++dCs b:=by simp [dCs]
theorem dCs_get {l:List Nat} {i d:Nat} (h:l[i]?=some d):(dCs l)[i]?=some (.int .i64 (d:Int)):=by unfold dCs;rw [List.getElem?_map,h];rfl
theorem digs_zero:digs 0=[]:=by rw [digs];rfl
theorem digs_pos {n:Nat} (h:n≠0):digs n=n % 65536::digs (n / 65536):=by rw [digs,dif_neg h]
theorem dval_digs:∀ n:Nat,dval (digs n)=n:=by
 intro n
 induction n using Nat.strongRecOn with
 | _ n ih =>
   by_cases h:n=0
   · rw [h,digs_zero];rfl
   · rw [digs_pos h,dval,ih _ (by omega)];omega
theorem digs_ok:∀ n:Nat,dOk (digs n):=by
 intro n
 induction n using Nat.strongRecOn with
 | _ n ih =>
   by_cases h:n=0
   · rw [h,digs_zero];exact fun d hd=>by simp at hd
   · rw [digs_pos h]
     intro d hd
     rcases List.mem_cons.1 hd with rfl | hd
     · omega
     · exact ih _ (by omega) d hd
theorem digs_nil {n:Nat}:digs n=[] ↔ n=0:=by
 constructor
 · intro h
   have:=dval_digs n
   rw [h] at this
   exact this.symm
 · rintro rfl;exact digs_zero
def noLead (l:List Nat):Prop:=l.getLast?≠some 0
theorem noLead_digs:∀ {l:List Nat},dOk l→noLead l→l=digs (dval l)
 | [],_,_=>by simp [dval,digs_zero]
 | d::l,h,hn=>by
   have hd:=h d (List.mem_cons_self ..)
   have hl:dOk l:=fun x hx=>h x (List.mem_cons_of_mem _ hx)
   by_cases he:l=[]
   · subst he
     have h0:d≠0:=by intro e;subst e;exact hn rfl
     rw [show dval [d]=d by simp [dval],digs_pos h0,show d % 65536=d by omega,show d / 65536=0 by omega,digs_zero]
   · have hn':noLead l:=by
      unfold noLead at hn ⊢
      obtain ⟨x,l',rfl⟩:=List.exists_cons_of_ne_nil he
      rwa [List.getLast?_cons_cons] at hn
     have ih:=noLead_digs hl hn'
     have hv:dval l≠0:=by
      intro e
      rw [e,digs_zero] at ih
      exact he ih
     rw [dval,digs_pos (by omega),show (d+65536*dval l) % 65536=d by omega,show (d+65536*dval l) / 65536=dval l by omega,← ih]
theorem digs_len {n k:Nat} (h:n<65536 ^ k):(digs n).length≤k:=by
 induction k generalizing n with
 | zero=>have:n=0:=by simpa using h
         rw [this,digs_zero];simp
 | succ k ih =>
   by_cases h0:n=0
   · rw [h0,digs_zero];simp
   · rw [digs_pos h0,List.length_cons]
     have:n / 65536<65536 ^ k:=by rw [Nat.pow_succ] at h;omega
     have:=ih this
     omega
theorem digs_lt (n:Nat):n<65536 ^ (digs n).length:=by have:=dval_lt (digs_ok n);rwa [dval_digs] at this
theorem dval_drop_zero {l:List Nat} {m:Nat} (hl:l.length=m+1) (h:l[m]?=some 0):dval (l.take m)=dval l:=by
 have h1:=dval_take h
 rw [List.take_of_length_le (by omega)] at h1
 rw [h1];simp
theorem noLead_of {l:List Nat} {m d:Nat} (hl:l.length=m+1) (h:l[m]?=some d) (hd:d≠0):noLead l:=by
 unfold noLead
 rw [List.getLast?_eq_getElem?,show l.length - 1=m by omega,h]
 intro e
 cases e
 exact hd rfl
end
section
open Go.RowKit
theorem AddD.start (a b:List Nat):AddD a b 0 0 []:=⟨rfl,fun d hd=>by simp at hd,by omega,by simp [dval],by omega,fun _=>rfl⟩
theorem SubD.start (a b:List Nat):SubD a b 0 0 []:=⟨rfl,fun d hd=>by simp at hd,by omega,by simp [dval]⟩
theorem MulI.start {o0 b:List Nat} (x k:Nat) (h:dOk o0):MulI o0 b x k 0 0 o0:=⟨rfl,h,by omega,by simp [dval],fun _ _=>rfl⟩
theorem MulO.start (a b:List Nat):MulO a b 0 (List.replicate (a.length+b.length) 0):=by
 refine ⟨by simp,fun d hd=>by rw [(List.mem_replicate.1 hd).2];omega,?_,fun i _ hi=>?_⟩
 · have:∀ n,dval (List.replicate n 0)=0:=fun n=>by induction n with
    | zero=>rfl
    | succ n ih=>rw [List.replicate_succ,dval,ih]
   rw [this];simp [dval]
 · rw [List.getElem?_replicate,if_pos (by simpa using hi)]
section
variable {w w':World} {P R:Nat→Prop} {A:Option Addr} {xs:List Value}
end
theorem own_slN {w:World} {base:Nat} {e:TypeId} {size n m c:Nat} {A:Option Addr} {xs:List Value} (h:w.ownsRow base e size (.slice A n c) m xs):SlN w (fun k=>base≤k) A xs:=by
 rcases Sl.of_own h with h1 | ⟨b,off,hA,hb,hc⟩
 · exact .inl h1
 · exact .inr ⟨b,off,hA,own_base h (by rw [hA];rfl),hc⟩
end
end Go.Proofs.YtfljlmleiggmjaaGreatDoor
