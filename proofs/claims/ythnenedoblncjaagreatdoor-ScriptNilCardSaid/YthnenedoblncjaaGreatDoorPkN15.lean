/- ScrSpec -/
import Derived.ChangeAlike
import Derived.Laws.BytesArg
import Derived.Test.YthnenedoblncjaaGreatDoorPkN11
import Derived.Test.YthnenedoblncjaaGreatDoorPkN14
set_option maxRecDepth 1000000
set_option maxHeartbeats 8000000
namespace Go.Proofs.YthnenedoblncjaaGreatDoor
section
open Go.RowKit
def Y4(n:Nat):Nat:=(n+1) / 2
def Xl{α β:Type}(f:α->Option β):List α->Option (List β)
 | []=>some []
 | a::l=>match f a,Xl f l with
   | some b,some r=>some (b::r)
   | _,_=>none
theorem Ry{α β:Type}(f:α->Option β)(a:α){b:β}(h:f a=some b):∀ {l:List α} {r:List β},Xl f l=some r->Xl f (l++[a])=some (r++[b])
 | [],r,h1=>by
   unfold Xl at h1;cases h1;simp [Xl,h]
 | x::l,r,h1=>by
   unfold Xl at h1;cases hx:f x with
   | none=>rw [hx] at h1;cases h1
   | some y =>
     cases hl:Xl f l with
     | none=>rw [hx,hl] at h1;cases h1
     | some r2 =>
       rw [hx,hl] at h1;cases h1;have ih:=Ry f a h hl;rw [List.cons_append,Xl,hx,ih];rfl
theorem Rx{α β:Type}(f:α->Option β){a:α}(h:f a=none):∀ {l:List α},a∈l->Xl f l=none
 | x::l,hm=>by
   unfold Xl;rcases List.mem_cons.1 hm with rfl|hm
   · rw [h]
   · rw [Rx f h hm];cases f x <;> rfl
theorem Td{α β:Type}(f:α->Option β):∀ {l:List α} {r:List β},Xl f l=some r->r.length=l.length
 | [],r,h=>by unfold Xl at h;cases h;rfl
 | x::l,r,h=>by
   unfold Xl at h;cases hx:f x with
   | none=>rw [hx] at h;cases h
   | some y =>
     cases hl:Xl f l with
     | none=>rw [hx,hl] at h;cases h
     | some r2 =>
       rw [hx,hl] at h;cases h;rw [List.length_cons,List.length_cons,Td f hl]
theorem Pv{α β:Type}(f:α->Option β)(p:β->Prop)(hp:∀ a b,f a=some b->p b):∀ {l:List α} {r:List β},Xl f l=some r->∀ b∈r,p b
 | [],r,h=>by unfold Xl at h;cases h;intro b hb;cases hb
 | x::l,r,h=>by
   unfold Xl at h;cases hx:f x with
   | none=>rw [hx] at h;cases h
   | some y =>
     cases hl:Xl f l with
     | none=>rw [hx,hl] at h;cases h
     | some r2 =>
       rw [hx,hl] at h;cases h;intro b hb;rcases List.mem_cons.1 hb with rfl|hb
       · exact hp _ _ hx
       · exact Pv f p hp hl b hb
def EW(s:List UInt8):Option Int:=if YN s 1=0 then some (pVal s) else none
theorem UL{s:List UInt8}(h:YN s 1=0):EW s=some (pVal s):=if_pos h
theorem Rw{s:List UInt8}(h:YN s 1≠0):EW s=none:=if_neg h
theorem VX{s:List UInt8}{n:Int}(h:YN s n=0):Fits n.toNat (pVal s):=by
 unfold YN at h;split at h
 · cases h
 · split at h
   · cases h
   · split at h
     · cases h
     · split at h
       · assumption
       · cases h
theorem MP{v:Int}(h:Fits 1 v):-9223372036854775808<=v/\v<=9223372036854775807:=by
 unfold Fits at h;omega
def Ws(l:List (List UInt8))(k:Nat):Option Pt :=
 match l[2*k]?,l[2*k+1]? with
 | some a,some b=>match EW a,EW b with
   | some x,some y=>some (x,y)
   | _,_=>none
 | _,_=>none
theorem Uu{l:List (List UInt8)}{k:Nat}(h:¬ 2*k+1<l.length):Ws l k=none:=by
 unfold Ws;rw [List.getElem?_eq_none (i:=2*k+1) (by omega)];cases l[2*k]? <;> rfl
theorem Py{l:List (List UInt8)}{k:Nat}{a b:List UInt8}(ha:l[2*k]?=some a)(hb:l[2*k+1]?=some b):
 Ws l k=if YN a 1=0/\YN b 1=0 then some (pVal a,pVal b) else none:=by
 unfold Ws;rw [ha,hb];dsimp only
 by_cases h1:YN a 1=0
 · by_cases h2:YN b 1=0
   · rw [UL h1,UL h2,if_pos ⟨h1,h2⟩]
   · rw [UL h1,Rw h2,if_neg fun h=>h2 h.2]
 · rw [Rw h1,if_neg fun h=>h1 h.1]
theorem Fb{l:List (List UInt8)}{k:Nat}{p:Pt}(h:Ws l k=some p):PJ p:=by
 by_cases hk:2*k+1<l.length
 · obtain ⟨a,ha⟩:∃ a,l[2*k]?=some a:=⟨_,List.getElem?_eq_getElem (by omega)⟩;obtain ⟨b,hb⟩:∃ b,l[2*k+1]?=some b:=⟨_,List.getElem?_eq_getElem hk⟩;rw [Py ha hb] at h;split at h
   · rename_i hh
     cases h;have f1:=MP (VX hh.1);have f2:=MP (VX hh.2);unfold PJ Mf;dsimp only;omega
   · cases h
 · rw [Uu hk] at h;cases h
def IZ(l:List (List UInt8)):Option (List Pt):=Xl (Ws l) (List.range (Y4 l.length))
def Zb(l:List (List UInt8)):Option (List Pt):=match IZ l with
 | some []=>none
 | x=>x
theorem TS{l:List (List UInt8)}{ps:List Pt}(h:Zb l=some ps):Lj ps/\ps≠[]/\ps.length=Y4 l.length:=by
 unfold Zb at h;cases hw:IZ l with
 | none=>rw [hw] at h;cases h
 | some r =>
   rw [hw] at h;cases r with
   | nil=>cases h
   | cons p r =>
     cases h;refine ⟨fun q hq=>Pv (Ws l) PJ (fun _ _=>Fb) hw q hq,by simp,?_⟩;rw [Td _ hw,List.length_range]
end
end Go.Proofs.YthnenedoblncjaaGreatDoor