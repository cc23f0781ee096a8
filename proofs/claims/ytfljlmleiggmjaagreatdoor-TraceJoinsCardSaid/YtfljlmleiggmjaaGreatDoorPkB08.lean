/- U64 Each Reader TakeRec Answer Take -/
import Derived.Deep.AppendLies
import Derived.Deep.RegionLaw
import Derived.Laws.BitsAllLaws
import Derived.Laws.MakeOwn
import Derived.Test.YtfljlmleiggmjaaGreatDoorPkB02
set_option maxRecDepth 1000000
set_option maxHeartbeats 8000000
namespace Go.Proofs.YtfljlmleiggmjaaGreatDoor
section
open Go.RowKit
structure KeepP (P:Nat→Prop) (w w':World):Prop where
 os:w'.os=w.os
 tape:w'.tape=w.tape
 output:w'.output=w.output
 size:w.heap.size≤w'.heap.size
 block:∀ k,P k→w'.heap[k]?=w.heap[k]?
section
variable {P R:Nat→Prop} {w w' w'':World} {B:Nat}
theorem KeepP.refl (P:Nat→Prop) (w:World):KeepP P w w:=⟨rfl,rfl,rfl,Nat.le_refl _,fun _ _=>rfl⟩
theorem KeepP.trans (h:KeepP P w w') (k:KeepP P w' w''):KeepP P w w'' :=
 ⟨k.os.trans h.os,k.tape.trans h.tape,k.output.trans h.output,Nat.le_trans h.size k.size,fun i hi=>(k.block i hi).trans (h.block i hi)⟩
theorem KeepP.of_below (h:Below B w w') (hP:∀ k,P k→k<B):KeepP P w w':=⟨h.os,h.tape,h.output,h.size,fun k hk=>h.block k (hP k hk)⟩
theorem KeepP.below (h:KeepP P w w') (hP:∀ k,k<B→P k):Below B w w':=⟨h.os,h.tape,h.output,h.size,fun k hk=>h.block k (hP k hk)⟩
theorem KeepP.mono (h:KeepP P w w') (hP:∀ k,R k→P k):KeepP R w w':=⟨h.os,h.tape,h.output,h.size,fun k hk=>h.block k (hP k hk)⟩
theorem KeepP.cell (h:KeepP P w w') {b:Nat} (hb:P b) (o:Nat):w'.cell? ⟨b,o,none⟩=w.cell? ⟨b,o,none⟩:=World.cell?_of_block (h.block b hb)
theorem KeepP.frozen (h:KeepP P w w') {b:Nat} (hb:P b) (o:Nat):w'.frozen? ⟨b,o,none⟩=w.frozen? ⟨b,o,none⟩:=World.frozen?_of_block (h.block b hb)
theorem Blk.kept {g:Nat} {t:TypeId} {cs:Array Value} (hb:Blk w g t cs) (h:KeepP P w w') (hP:P g):Blk w' g t cs:=(h.block g hP).trans hb
theorem Sl.kept {A:Option Addr} {xs:List Value} (hs:Sl w B A xs) (h:KeepP P w w') (hP:∀ k,k<B→P k):Sl w' B A xs:=by
 rcases hs with hs | ⟨b,off,hA,hlt,hc⟩
 · exact .inl hs
 · exact .inr ⟨b,off,hA,hlt,fun j u hu=>(h.cell (hP b hlt) _).trans (hc j u hu)⟩
end
def WS (w:World) (P:Nat→Prop) (g:Nat) (bs:List Int):Prop :=
 ∃ v,Blk w g 162 #[v]∧¬ P g∧w.ownsRow 0 5 1 v bs.length (byCells bs)∧v.ownBlock≠some g∧∀ k,v.ownBlock=some k→¬ P k
section
variable (P:Nat→Prop) (g:Nat) (bs:List Int) (x:Int) (w:World)
variable (hP:∀ k,P k→k<w.heap.size) (hw:WS w P g bs) (hlen:bs.length≤1000000)
include hP hw hlen
end
end
section
open Go.RowKit
section
variable {w w':World} {P R:Nat→Prop} {g:Nat} {bs:List Int}
theorem WS.lt (h:WS w P g bs):g<w.heap.size:=by
 obtain ⟨v,hb,_⟩:=h;exact hb.lt
theorem WS.step (h:WS w P g bs) (hb:Below w.heap.size w w'):WS w' P g bs:=by
 obtain ⟨v,h1,h2,h3,h4,h5⟩:=h
 exact ⟨v,h1.step hb,h2,own_step h3 hb,h4,h5⟩
theorem WS.mono (h:WS w P g bs) (hR:∀ k,R k→P k):WS w R g bs:=by
 obtain ⟨v,h1,h2,h3,h4,h5⟩:=h
 exact ⟨v,h1,fun hr=>h2 (hR _ hr),h3,h4,fun k hk hr=>h5 k hk (hR _ hr)⟩
def More (P:Nat→Prop) (w w':World) (k:Nat):Prop:=P k∨w.heap.size≤k∧k<w'.heap.size
theorem WS.more (h:WS w P g bs) (hb:Below w.heap.size w w'):WS w' (More P w w') g bs:=by
 obtain ⟨v,h1,h2,h3,h4,h5⟩:=h
 have:=h1.lt
 refine ⟨v,h1.step hb,fun h=>?_,own_step h3 hb,h4,fun k hk h=>?_⟩
 · rcases h with h | h
   · exact h2 h
   · omega
 · have:=own_lt h3 hk
   rcases h with h | h
   · exact h5 k hk h
   · omega
theorem KeepP.more {w1:World} {P:Nat→Prop} (hb:Below w.heap.size w w') (hP:∀ k,P k→k<w.heap.size) (h:KeepP (More P w w') w' w1):KeepP P w w1 :=
 (KeepP.of_below hb hP).trans (h.mono fun _ hk=>.inl hk)
end
section
variable (P:Nat→Prop) (g:Nat) (bs:List Int) (w:World)
variable (hP:∀ k,P k→k<w.heap.size) (hw:WS w P g bs) (hlen:bs.length≤900000)
include hP hw hlen
end
end
section
open Go.RowKit
def U64 (x:Int):Prop:=0≤x∧x<18446744073709551616
theorem KeepP.drew (P:Nat→Prop) (w:World):KeepP P w w.drew:=⟨rfl,rfl,rfl,Nat.le_refl _,fun _ _=>rfl⟩
end
section
open Go.RowKit
def ptCs (ps:List (Int × Int)):List Value:=ps.flatMap fun p=>[.int .i64 p.1,.int .i64 p.2]
def recCs (ps:List (Int × Int)):List Value:=ps.flatMap fun p=>[.int .u64 p.1,.int .u64 p.2]
def quCs (qs:List ((Int × Int) × Int)):List Value:=qs.flatMap fun q=>[.int .i64 q.1.1,.int .i64 q.1.2,.int .u64 q.2]
theorem flat_get {α:Type} (f:α→List Value) (n:Nat) (hf:∀ a,(f a).length=n):∀ (l:List α) (i:Nat) (a:α),l[i]?=some a→∀ j,j<n→(l.flatMap f)[i*n+j]?=(f a)[j]?
 | [],i,a,h,j,hj=>by simp at h
 | b::l,0,a,h,j,hj=>by
   simp only [List.getElem?_cons_zero,Option.some.injEq] at h
   subst h
   rw [List.flatMap_cons,List.getElem?_append_left (by rw [hf];omega)]
   congr 1;omega
 | b::l,i+1,a,h,j,hj=>by
   have h':l[i]?=some a:=by simpa using h
   rw [List.flatMap_cons,List.getElem?_append_right (by rw [hf,Nat.succ_mul];omega),hf]
   have e:(i+1)*n+j - n=i*n+j:=by rw [Nat.succ_mul];omega
   rw [e]
   exact flat_get f n hf l i a h' j hj
theorem flat_length {α:Type} (f:α→List Value) (n:Nat) (hf:∀ a,(f a).length=n) (l:List α):(l.flatMap f).length=l.length*n:=by
 induction l with
 | nil=>simp
 | cons a l ih=>rw [List.flatMap_cons,List.length_append,ih,hf,List.length_cons,Nat.succ_mul];omega
section
variable {w:World} {B:Nat} {A:Option Addr}
theorem Sl.qu {qs:List ((Int × Int) × Int)} (h:Sl w B A (quCs qs)) {k:Nat} {q:(Int × Int) × Int} (hk:qs[k]?=some q) :
 ∃ b off,A=some ⟨b,off,none⟩∧b<B∧w.cell? ⟨b,off+k*3,none⟩=some (.int .i64 q.1.1)∧w.cell? ⟨b,off+k*3+1,none⟩=some (.int .i64 q.1.2)∧w.cell? ⟨b,off+k*3+2,none⟩=some (.int .u64 q.2):=by
 have hl:=flat_length (fun q:(Int × Int) × Int=>[Value.int .i64 q.1.1,.int .i64 q.1.2,.int .u64 q.2]) 3 (fun _=>rfl) qs
 have hlt:k<qs.length:=(List.getElem?_eq_some_iff.1 hk).1
 obtain ⟨b,off,rfl,hB,hc⟩:=h.open_ (by unfold quCs;rw [hl];omega)
 have g:=flat_get (fun q:(Int × Int) × Int=>[Value.int .i64 q.1.1,.int .i64 q.1.2,.int .u64 q.2]) 3 (fun _=>rfl) qs k q hk
 exact ⟨b,off,rfl,hB,hc _ _ (g 0 (by omega)),hc _ _ (g 1 (by omega)),hc _ _ (g 2 (by omega))⟩
end
section
variable (P:Nat→Prop) (g:Nat) (bs:List Int) (w:World) (B:Nat) (A:Option Addr) (c:Nat)
variable (hP:∀ k,P k→k<w.heap.size) (hw:WS w P g bs) (hlen:bs.length≤400000) (hB:∀ k,k<B→P k)
include hP hw hlen hB
end
end
section
open Go.RowKit
def le:List Int→Int
 | []=>0
 | b::t=>b+256*le t
def By (bs:List Int):Prop:=∀ x∈bs,0≤x∧x≤255
theorem By.tail {b:Int} {t:List Int} (h:By (b::t)):By t:=fun x hx=>h x (by simp [hx])
theorem By.head {b:Int} {t:List Int} (h:By (b::t)):0≤b∧b≤255:=h b (by simp)
theorem By.take {l:List Int} (h:By l) (k:Nat):By (l.take k):=fun x hx=>h x (List.mem_of_mem_take hx)
theorem By.drop {l:List Int} (h:By l) (k:Nat):By (l.drop k):=fun x hx=>h x (List.mem_of_mem_drop hx)
def RS (w:World) (P:Nat→Prop) (B g:Nat) (bs:List Int):Prop :=
 ∃ A c,Blk w g 153 #[.slice A bs.length c]∧¬ P g∧bs.length≤c∧Sl w B A (byCells bs)
section
variable {w w':World} {P R:Nat→Prop} {B g:Nat} {bs:List Int}
theorem RS.lt (h:RS w P B g bs):g<w.heap.size:=by obtain ⟨A,c,h1,_⟩:=h;exact h1.lt
theorem RS.step (h:RS w P B g bs) (hb:Below w.heap.size w w') (hB:∀ k,k<B→P k) (hP:∀ k,P k→k<w.heap.size):RS w' P B g bs:=by
 obtain ⟨A,c,h1,h2,h3,h4⟩:=h
 exact ⟨A,c,h1.step hb,h2,h3,h4.kept (KeepP.of_below hb hP) hB⟩
theorem RS.mono (h:RS w P B g bs) (hR:∀ k,R k→P k):RS w R B g bs:=by
 obtain ⟨A,c,h1,h2,h3,h4⟩:=h
 exact ⟨A,c,h1,fun hr=>h2 (hR _ hr),h3,h4⟩
theorem KeepP.set {b:Nat} (hb:¬ P b) (o:Nat) (u:Value) (w:World):KeepP P w (w.setCell ⟨b,o,none⟩ u) :=
 ⟨rfl,rfl,rfl,by rw [World.size_setCell];exact Nat.le_refl _,fun k hk=>Below.heap_setCell w _ u k (by rintro rfl;exact hb hk)⟩
theorem RS.far (h:RS w P B g bs) {b:Nat} (hg:g≠b) (hb:¬ P b) (hB:∀ k,k<B→P k) (o:Nat) (u:Value):RS (w.setCell ⟨b,o,none⟩ u) P B g bs:=by
 obtain ⟨A,c,h1,h2,h3,h4⟩:=h
 exact ⟨A,c,h1.far (p:=⟨b,o,none⟩) hg u,h2,h3,h4.kept (KeepP.set hb o u w) hB⟩
theorem RS.more (h:RS w P B g bs) (hb:Below w.heap.size w w') (hB:∀ k,k<B→P k) (hP:∀ k,P k→k<w.heap.size):RS w' (More P w w') B g bs:=by
 have hl:=h.lt
 obtain ⟨A,c,h1,h2,h3,h4⟩:=h.step hb hB hP
 exact ⟨A,c,h1,fun hm=>by rcases hm with hm | hm;exact h2 hm;omega,h3,h4⟩
end
section
variable (P:Nat→Prop) (B g:Nat) (w:World) (hB:∀ k,k<B→P k)
include hB
end
end
section
open Go.RowKit
def recAt (bs:List Int) (i:Nat):Int × Int:=(bs.getD (9*i) 0,le ((bs.drop (9*i+1)).take 8))
def recsOf (bs:List Int) (n:Nat):List (Int × Int):=(List.range n).map (recAt bs)
section
variable (P:Nat→Prop) (B g:Nat) (w:World) (hB:∀ k,k<B→P k)
include hB
end
end
section
open Go.RowKit
def recOk (cnt:Int) (i:Nat) (r:Int × Int):Bool:=if (i:Int)<cnt then r.1 == 1 else (r.1 == 0 && r.2 == 0)
def okFrom (cnt:Int):Nat→List (Int × Int)→Bool
 | _,[]=>true
 | i,r::t=>recOk cnt i r && okFrom cnt (i+1) t
def most (op:Int):Int:=if op=3 then 3 else if op=5 then 1 else 2
def aLim (val pts:Int):Int:=if val=0 then 0 else pts
def isAns (op pts val cnt:Int) (recs:List (Int × Int)):Bool :=
 if val<0 then false else if most op<val then false else if (recs.length:Int)≠pts then false else if cnt<0 then false else if aLim val pts<cnt then false else okFrom cnt 0 recs
section
variable (op vs pts val cnt:Int) (HA RA:Option Addr) (hn hc rc:Nat) (recs:List (Int × Int)) (w:World)
variable (hs:Sl w w.heap.size RA (recCs recs)) (hrn:recs.length≤maxLen) (hp0:0≤pts) (hp1:pts≤4096)
include hs hrn hp0 hp1
end
end
section
open Go.RowKit
def eight (bs:List Int) (k:Nat):List Int:=(bs.drop k).take 8
section
variable (P:Nat→Prop) (B g:Nat) (w:World) (hB:∀ k,k<B→P k)
include hB
end
section
variable (P:Nat→Prop) (B g:Nat) (w:World) (hB:∀ k,k<B→P k)
include hB
end
end
end Go.Proofs.YtfljlmleiggmjaaGreatDoor
