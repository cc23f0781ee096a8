/- ScrSpec -/
import Derived.Laws.BytesArg
import Derived.Test.YthnenedoblncjaaGreatDoorPkR15
import Derived.Test.YthnenedoblncjaaGreatDoorPkR17
set_option maxRecDepth 1000000
set_option maxHeartbeats 8000000
namespace Go.Proofs.YthnenedoblncjaaGreatDoor
section
open Go.RowKit
def XH(n:Nat):Nat:=(n+1) / 2
def TP{α β:Type}(f:α->Option β):List α->Option (List β)
 | []=>some []
 | a::l=>match f a,TP f l with
   | some b,some r=>some (b::r)
   | _,_=>none
theorem Hu{α β:Type}(f:α->Option β)(a:α){b:β}(h:f a=some b):∀ {l:List α} {r:List β},TP f l=some r->TP f (l++[a])=some (r++[b])
 | [],r,h1=>by
   unfold TP at h1;cases h1;simp [TP,h]
 | x::l,r,h1=>by
   unfold TP at h1;cases hx:f x with
   | none=>rw [hx] at h1;cases h1
   | some y =>
     cases hl:TP f l with
     | none=>rw [hx,hl] at h1;cases h1
     | some r2 =>
       rw [hx,hl] at h1;cases h1;have ih:=Hu f a h hl;rw [List.cons_append,TP,hx,ih];rfl
theorem Ht{α β:Type}(f:α->Option β){a:α}(h:f a=none):∀ {l:List α},a∈l->TP f l=none
 | x::l,hm=>by
   unfold TP;rcases List.mem_cons.1 hm with rfl|hm
   · rw [h]
   · rw [Ht f h hm];cases f x <;> rfl
theorem KD{α β:Type}(f:α->Option β):∀ {l:List α} {r:List β},TP f l=some r->r.length=l.length
 | [],r,h=>by unfold TP at h;cases h;rfl
 | x::l,r,h=>by
   unfold TP at h;cases hx:f x with
   | none=>rw [hx] at h;cases h
   | some y =>
     cases hl:TP f l with
     | none=>rw [hx,hl] at h;cases h
     | some r2 =>
       rw [hx,hl] at h;cases h;rw [List.length_cons,List.length_cons,KD f hl]
theorem CO{α β:Type}(f:α->Option β)(p:β->Prop)(hp:∀ a b,f a=some b->p b):∀ {l:List α} {r:List β},TP f l=some r->∀ b∈r,p b
 | [],r,h=>by unfold TP at h;cases h;intro b hb;cases hb
 | x::l,r,h=>by
   unfold TP at h;cases hx:f x with
   | none=>rw [hx] at h;cases h
   | some y =>
     cases hl:TP f l with
     | none=>rw [hx,hl] at h;cases h
     | some r2 =>
       rw [hx,hl] at h;cases h;intro b hb;rcases List.mem_cons.1 hb with rfl|hb
       · exact hp _ _ hx
       · exact CO f p hp hl b hb
def au(s:List UInt8):Option Int:=if WX s 1=0 then some (pVal s) else none
theorem NI{s:List UInt8}(h:WX s 1=0):au s=some (pVal s):=if_pos h
theorem Hq{s:List UInt8}(h:WX s 1≠0):au s=none:=if_neg h
theorem QO{s:List UInt8}{n:Int}(h:WX s n=0):Fits n.toNat (pVal s):=by
 unfold WX at h;split at h
 · cases h
 · split at h
   · cases h
   · split at h
     · cases h
     · split at h
       · assumption
       · cases h
theorem wU{v:Int}(h:Fits 1 v):-9223372036854775808<=v/\v<=9223372036854775807:=by
 unfold Fits at h;omega
def Ru(l:List (List UInt8))(k:Nat):Option Pt :=
 match l[2*k]?,l[2*k+1]? with
 | some a,some b=>match au a,au b with
   | some x,some y=>some (x,y)
   | _,_=>none
 | _,_=>none
theorem MQ{l:List (List UInt8)}{k:Nat}(h:¬ 2*k+1<l.length):Ru l k=none:=by
 unfold Ru;rw [List.getElem?_eq_none (i:=2*k+1) (by omega)];cases l[2*k]? <;> rfl
theorem CY{l:List (List UInt8)}{k:Nat}{a b:List UInt8}(ha:l[2*k]?=some a)(hb:l[2*k+1]?=some b):
 Ru l k=if WX a 1=0/\WX b 1=0 then some (pVal a,pVal b) else none:=by
 unfold Ru;rw [ha,hb];dsimp only
 by_cases h1:WX a 1=0
 · by_cases h2:WX b 1=0
   · rw [NI h1,NI h2,if_pos ⟨h1,h2⟩]
   · rw [NI h1,Hq h2,if_neg fun h=>h2 h.2]
 · rw [Hq h1,if_neg fun h=>h1 h.1]
theorem aL{l:List (List UInt8)}{k:Nat}{p:Pt}(h:Ru l k=some p):PJ p:=by
 by_cases hk:2*k+1<l.length
 · obtain ⟨a,ha⟩:∃ a,l[2*k]?=some a:=⟨_,List.getElem?_eq_getElem (by omega)⟩;obtain ⟨b,hb⟩:∃ b,l[2*k+1]?=some b:=⟨_,List.getElem?_eq_getElem hk⟩;rw [CY ha hb] at h;split at h
   · rename_i hh
     cases h;have f1:=wU (QO hh.1);have f2:=wU (QO hh.2);unfold PJ vO;dsimp only;omega
   · cases h
 · rw [MQ hk] at h;cases h
def kN(l:List (List UInt8)):Option (List Pt):=TP (Ru l) (List.range (XH l.length))
def Yp(l:List (List UInt8)):Option (List Pt):=match kN l with
 | some []=>none
 | x=>x
theorem Tk{l:List (List UInt8)}{ps:List Pt}(h:Yp l=some ps):LW ps/\ps≠[]/\ps.length=XH l.length:=by
 unfold Yp at h;cases hw:kN l with
 | none=>rw [hw] at h;cases h
 | some r =>
   rw [hw] at h;cases r with
   | nil=>cases h
   | cons p r =>
     cases h;refine ⟨fun q hq=>CO (Ru l) PJ (fun _ _=>aL) hw q hq,by simp,?_⟩;rw [KD _ hw,List.length_range]
end
end Go.Proofs.YthnenedoblncjaaGreatDoor