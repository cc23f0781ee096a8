/- ScrSpec -/
import Derived.ChangeAlike
import Derived.Test.YthnenedoblncjaaGreatDoorPkP09
import Derived.Test.YthnenedoblncjaaGreatDoorPkP12
set_option maxRecDepth 1000000
set_option maxHeartbeats 8000000
namespace Go.Proofs.YthnenedoblncjaaGreatDoor
section
open Go.RowKit
def chunkN (n:Nat):Nat:=(n+1) / 2
def optL {α β:Type} (f:α→Option β):List α→Option (List β)
 | []=>some []
 | a::l=>match f a,optL f l with
   | some b,some r=>some (b::r)
   | _,_=>none
theorem optL_snoc {α β:Type} (f:α→Option β) (a:α) {b:β} (h:f a=some b):∀ {l:List α} {r:List β},optL f l=some r→optL f (l++[a])=some (r++[b])
 | [],r,h1=>by
   unfold optL at h1
   cases h1
   simp [optL,h]
 | x::l,r,h1=>by
   unfold optL at h1
   cases hx:f x with
   | none=>rw [hx] at h1;cases h1
   | some y =>
     cases hl:optL f l with
     | none=>rw [hx,hl] at h1;cases h1
     | some r2 =>
       rw [hx,hl] at h1
       cases h1
       have ih:=optL_snoc f a h hl
       rw [List.cons_append,optL,hx,ih]
       rfl
theorem optL_none {α β:Type} (f:α→Option β) {a:α} (h:f a=none):∀ {l:List α},a∈l→optL f l=none
 | x::l,hm=>by
   unfold optL
   rcases List.mem_cons.1 hm with rfl | hm
   · rw [h]
   · rw [optL_none f h hm]
     cases f x <;> rfl
theorem optL_len {α β:Type} (f:α→Option β):∀ {l:List α} {r:List β},optL f l=some r→r.length=l.length
 | [],r,h=>by unfold optL at h;cases h;rfl
 | x::l,r,h=>by
   unfold optL at h
   cases hx:f x with
   | none=>rw [hx] at h;cases h
   | some y =>
     cases hl:optL f l with
     | none=>rw [hx,hl] at h;cases h
     | some r2 =>
       rw [hx,hl] at h
       cases h
       rw [List.length_cons,List.length_cons,optL_len f hl]
theorem optL_all {α β:Type} (f:α→Option β) (p:β→Prop) (hp:∀ a b,f a=some b→p b):∀ {l:List α} {r:List β},optL f l=some r→∀ b∈r,p b
 | [],r,h=>by unfold optL at h;cases h;intro b hb;cases hb
 | x::l,r,h=>by
   unfold optL at h
   cases hx:f x with
   | none=>rw [hx] at h;cases h
   | some y =>
     cases hl:optL f l with
     | none=>rw [hx,hl] at h;cases h
     | some r2 =>
       rw [hx,hl] at h
       cases h
       intro b hb
       rcases List.mem_cons.1 hb with rfl | hb
       · exact hp _ _ hx
       · exact optL_all f p hp hl b hb
def num1 (s:List UInt8):Option Int:=if pErr s 1=0 then some (pVal s) else none
theorem num1_some {s:List UInt8} (h:pErr s 1=0):num1 s=some (pVal s):=if_pos h
theorem num1_none {s:List UInt8} (h:pErr s 1≠0):num1 s=none:=if_neg h
theorem pErr_fits {s:List UInt8} {n:Int} (h:pErr s n=0):Fits n.toNat (pVal s):=by
 unfold pErr at h
 split at h
 · cases h
 · split at h
   · cases h
   · split at h
     · cases h
     · split at h
       · assumption
       · cases h
theorem fits1w {v:Int} (h:Fits 1 v):-9223372036854775808≤v∧v≤9223372036854775807:=by
 unfold Fits at h
 omega
def ptAtW (l:List (List UInt8)) (k:Nat):Option Pt :=
 match l[2*k]?,l[2*k+1]? with
 | some a,some b=>match num1 a,num1 b with
   | some x,some y=>some (x,y)
   | _,_=>none
 | _,_=>none
theorem ptAtW_short {l:List (List UInt8)} {k:Nat} (h:¬ 2*k+1<l.length):ptAtW l k=none:=by
 unfold ptAtW
 rw [List.getElem?_eq_none (i:=2*k+1) (by omega)]
 cases l[2*k]? <;> rfl
theorem ptAtW_of {l:List (List UInt8)} {k:Nat} {a b:List UInt8} (ha:l[2*k]?=some a) (hb:l[2*k+1]?=some b) :
 ptAtW l k=if pErr a 1=0∧pErr b 1=0 then some (pVal a,pVal b) else none:=by
 unfold ptAtW
 rw [ha,hb]
 dsimp only
 by_cases h1:pErr a 1=0
 · by_cases h2:pErr b 1=0
   · rw [num1_some h1,num1_some h2,if_pos ⟨h1,h2⟩]
   · rw [num1_some h1,num1_none h2,if_neg fun h=>h2 h.2]
 · rw [num1_none h1,if_neg fun h=>h1 h.1]
theorem ptAtW_j {l:List (List UInt8)} {k:Nat} {p:Pt} (h:ptAtW l k=some p):PJ p:=by
 by_cases hk:2*k+1<l.length
 · obtain ⟨a,ha⟩:∃ a,l[2*k]?=some a:=⟨_,List.getElem?_eq_getElem (by omega)⟩
   obtain ⟨b,hb⟩:∃ b,l[2*k+1]?=some b:=⟨_,List.getElem?_eq_getElem hk⟩
   rw [ptAtW_of ha hb] at h
   split at h
   · rename_i hh
     cases h
     have f1:=fits1w (pErr_fits hh.1)
     have f2:=fits1w (pErr_fits hh.2)
     unfold PJ J64
     dsimp only
     omega
   · cases h
 · rw [ptAtW_short hk] at h;cases h
def ptsW (l:List (List UInt8)):Option (List Pt):=optL (ptAtW l) (List.range (chunkN l.length))
def ptsOk (l:List (List UInt8)):Option (List Pt):=match ptsW l with
 | some []=>none
 | x=>x
theorem ptsOk_j {l:List (List UInt8)} {ps:List Pt} (h:ptsOk l=some ps):PsJ ps∧ps≠[]∧ps.length=chunkN l.length:=by
 unfold ptsOk at h
 cases hw:ptsW l with
 | none=>rw [hw] at h;cases h
 | some r =>
   rw [hw] at h
   cases r with
   | nil=>cases h
   | cons p r =>
     cases h
     refine ⟨fun q hq=>optL_all (ptAtW l) PJ (fun _ _=>ptAtW_j) hw q hq,by simp,?_⟩
     rw [optL_len _ hw,List.length_range]
end
end Go.Proofs.YthnenedoblncjaaGreatDoor
