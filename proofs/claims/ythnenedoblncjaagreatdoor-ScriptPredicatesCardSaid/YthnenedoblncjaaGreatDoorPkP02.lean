/- U64 Each Encode Reader TakeRec Answer Read Take DecFacts Tape -/
import Derived.BigQuiet
import Derived.ChangeAlike
import Derived.Deep.AppendLies
import Derived.Deep.QuietTactic
import Derived.Deep.RegionHeld3
import Derived.Deep.RegionLaw
import Derived.Laws.BitsAllLaws
import Derived.Laws.MakeOwn
import Derived.Maps.OwnOps
import Derived.RangeFuncBound
import Derived.RangeFuncNested
import Derived.Test.YthnenedoblncjaaGreatDoorPkP01
set_option maxRecDepth 1000000
set_option maxHeartbeats 8000000
namespace Go.Proofs.YthnenedoblncjaaGreatDoor
section
open Go.RowKit
structure KeepP (P:Nat→Prop) (w w':World):Prop where
 os:w'.os=w.os
 tape:w'.tape=w.tape
 output:w'.output=w.output
 size:w.heap.size≤w'.heap.size
 block:∀ k,P k→w'.heap[k]?=w.heap[k]?
section
variable {P R:Nat→Prop} {w w' w'':World} {B:Nat}
theorem KeepP.refl (P:Nat→Prop) (w:World):KeepP P w w:=⟨rfl,rfl,rfl,Nat.le_refl _,fun _ _=>rfl⟩
theorem KeepP.trans (h:KeepP P w w') (k:KeepP P w' w''):KeepP P w w'' :=
 ⟨k.os.trans h.os,k.tape.trans h.tape,k.output.trans h.output,Nat.le_trans h.size k.size,fun i hi=>(k.block i hi).trans (h.block i hi)⟩
theorem KeepP.of_below (h:Below B w w') (hP:∀ k,P k→k<B):KeepP P w w':=⟨h.os,h.tape,h.output,h.size,fun k hk=>h.block k (hP k hk)⟩
theorem KeepP.below (h:KeepP P w w') (hP:∀ k,k<B→P k):Below B w w':=⟨h.os,h.tape,h.output,h.size,fun k hk=>h.block k (hP k hk)⟩
theorem KeepP.mono (h:KeepP P w w') (hP:∀ k,R k→P k):KeepP R w w':=⟨h.os,h.tape,h.output,h.size,fun k hk=>h.block k (hP k hk)⟩
theorem KeepP.cell (h:KeepP P w w') {b:Nat} (hb:P b) (o:Nat):w'.cell? ⟨b,o,none⟩=w.cell? ⟨b,o,none⟩:=World.cell?_of_block (h.block b hb)
theorem KeepP.frozen (h:KeepP P w w') {b:Nat} (hb:P b) (o:Nat):w'.frozen? ⟨b,o,none⟩=w.frozen? ⟨b,o,none⟩:=World.frozen?_of_block (h.block b hb)
theorem Blk.kept {g:Nat} {t:TypeId} {cs:Array Value} (hb:Blk w g t cs) (h:KeepP P w w') (hP:P g):Blk w' g t cs:=(h.block g hP).trans hb
theorem Sl.kept {A:Option Addr} {xs:List Value} (hs:Sl w B A xs) (h:KeepP P w w') (hP:∀ k,k<B→P k):Sl w' B A xs:=by
 rcases hs with hs | ⟨b,off,hA,hlt,hc⟩
 · exact .inl hs
 · exact .inr ⟨b,off,hA,hlt,fun j u hu=>(h.cell (hP b hlt) _).trans (hc j u hu)⟩
end
def WS (w:World) (P:Nat→Prop) (g:Nat) (bs:List Int):Prop :=
 ∃ v,Blk w g 250 #[v]∧¬ P g∧w.ownsRow 0 5 1 v bs.length (byCells bs)∧v.ownBlock≠some g∧∀ k,v.ownBlock=some k→¬ P k
section
variable (P:Nat→Prop) (g:Nat) (bs:List Int) (x:Int) (w:World)
variable (hP:∀ k,P k→k<w.heap.size) (hw:WS w P g bs) (hlen:bs.length≤1000000)
include hP hw hlen
end
end
section
open Go.RowKit
section
variable {w w':World} {P R:Nat→Prop} {g:Nat} {bs:List Int}
theorem WS.lt (h:WS w P g bs):g<w.heap.size:=by
 obtain ⟨v,hb,_⟩:=h;exact hb.lt
theorem WS.step (h:WS w P g bs) (hb:Below w.heap.size w w'):WS w' P g bs:=by
 obtain ⟨v,h1,h2,h3,h4,h5⟩:=h
 exact ⟨v,h1.step hb,h2,own_step h3 hb,h4,h5⟩
theorem WS.mono (h:WS w P g bs) (hR:∀ k,R k→P k):WS w R g bs:=by
 obtain ⟨v,h1,h2,h3,h4,h5⟩:=h
 exact ⟨v,h1,fun hr=>h2 (hR _ hr),h3,h4,fun k hk hr=>h5 k hk (hR _ hr)⟩
def More (P:Nat→Prop) (w w':World) (k:Nat):Prop:=P k∨w.heap.size≤k∧k<w'.heap.size
theorem WS.more (h:WS w P g bs) (hb:Below w.heap.size w w'):WS w' (More P w w') g bs:=by
 obtain ⟨v,h1,h2,h3,h4,h5⟩:=h
 have:=h1.lt
 refine ⟨v,h1.step hb,fun h=>?_,own_step h3 hb,h4,fun k hk h=>?_⟩
 · rcases h with h | h
   · exact h2 h
   · omega
 · have:=own_lt h3 hk
   rcases h with h | h
   · exact h5 k hk h
   · omega
theorem KeepP.more {w1:World} {P:Nat→Prop} (hb:Below w.heap.size w w') (hP:∀ k,P k→k<w.heap.size) (h:KeepP (More P w w') w' w1):KeepP P w w1 :=
 (KeepP.of_below hb hP).trans (h.mono fun _ hk=>.inl hk)
theorem more_lt {P:Nat→Prop} (hP:∀ k,P k→k<w.heap.size) (hb:Below w.heap.size w w'):∀ k,More P w w' k→k<w'.heap.size:=by
 intro k hk
 rcases hk with hk | hk
 · exact Nat.lt_of_lt_of_le (hP k hk) hb.size
 · exact hk.2
end
section
variable (P:Nat→Prop) (g:Nat) (bs:List Int) (w:World)
variable (hP:∀ k,P k→k<w.heap.size) (hw:WS w P g bs) (hlen:bs.length≤900000)
include hP hw hlen
end
end
section
open Go.RowKit
def U64 (x:Int):Prop:=0≤x∧x<18446744073709551616
theorem KeepP.drew (P:Nat→Prop) (w:World):KeepP P w w.drew:=⟨rfl,rfl,rfl,Nat.le_refl _,fun _ _=>rfl⟩
end
section
open Go.RowKit
def ptCs (ps:List (Int × Int)):List Value:=ps.flatMap fun p=>[.int .i64 p.1,.int .i64 p.2]
def recCs (ps:List (Int × Int)):List Value:=ps.flatMap fun p=>[.int .u64 p.1,.int .u64 p.2]
def quCs (qs:List ((Int × Int) × Int)):List Value:=qs.flatMap fun q=>[.int .i64 q.1.1,.int .i64 q.1.2,.int .u64 q.2]
theorem flat_get {α:Type} (f:α→List Value) (n:Nat) (hf:∀ a,(f a).length=n):∀ (l:List α) (i:Nat) (a:α),l[i]?=some a→∀ j,j<n→(l.flatMap f)[i*n+j]?=(f a)[j]?
 | [],i,a,h,j,hj=>by simp at h
 | b::l,0,a,h,j,hj=>by
   simp only [List.getElem?_cons_zero,Option.some.injEq] at h
   subst h
   rw [List.flatMap_cons,List.getElem?_append_left (by rw [hf];omega)]
   congr 1;omega
 | b::l,i+1,a,h,j,hj=>by
   have h':l[i]?=some a:=by simpa using h
   rw [List.flatMap_cons,List.getElem?_append_right (by rw [hf,Nat.succ_mul];omega),hf]
   have e:(i+1)*n+j - n=i*n+j:=by rw [Nat.succ_mul];omega
   rw [e]
   exact flat_get f n hf l i a h' j hj
theorem flat_length {α:Type} (f:α→List Value) (n:Nat) (hf:∀ a,(f a).length=n) (l:List α):(l.flatMap f).length=l.length*n:=by
 induction l with
 | nil=>simp
 | cons a l ih=>rw [List.flatMap_cons,List.length_append,ih,hf,List.length_cons,Nat.succ_mul];omega
section
variable {w:World} {B:Nat} {A:Option Addr}
theorem Sl.pt {ps:List (Int × Int)} (h:Sl w B A (ptCs ps)) {k:Nat} {p:Int × Int} (hk:ps[k]?=some p) :
 ∃ b off,A=some ⟨b,off,none⟩∧b<B∧w.cell? ⟨b,off+k*2,none⟩=some (.int .i64 p.1)∧w.cell? ⟨b,off+k*2+1,none⟩=some (.int .i64 p.2):=by
 have hl:=flat_length (fun p:Int × Int=>[Value.int .i64 p.1,.int .i64 p.2]) 2 (fun _=>rfl) ps
 have hlt:k<ps.length:=(List.getElem?_eq_some_iff.1 hk).1
 obtain ⟨b,off,rfl,hB,hc⟩:=h.open_ (by unfold ptCs;rw [hl];omega)
 have g:=flat_get (fun p:Int × Int=>[Value.int .i64 p.1,.int .i64 p.2]) 2 (fun _=>rfl) ps k p hk
 exact ⟨b,off,rfl,hB,hc _ _ (g 0 (by omega)),hc _ _ (g 1 (by omega))⟩
theorem Sl.rec_ {ps:List (Int × Int)} (h:Sl w B A (recCs ps)) {k:Nat} {p:Int × Int} (hk:ps[k]?=some p) :
 ∃ b off,A=some ⟨b,off,none⟩∧b<B∧w.cell? ⟨b,off+k*2,none⟩=some (.int .u64 p.1)∧w.cell? ⟨b,off+k*2+1,none⟩=some (.int .u64 p.2):=by
 have hl:=flat_length (fun p:Int × Int=>[Value.int .u64 p.1,.int .u64 p.2]) 2 (fun _=>rfl) ps
 have hlt:k<ps.length:=(List.getElem?_eq_some_iff.1 hk).1
 obtain ⟨b,off,rfl,hB,hc⟩:=h.open_ (by unfold recCs;rw [hl];omega)
 have g:=flat_get (fun p:Int × Int=>[Value.int .u64 p.1,.int .u64 p.2]) 2 (fun _=>rfl) ps k p hk
 exact ⟨b,off,rfl,hB,hc _ _ (g 0 (by omega)),hc _ _ (g 1 (by omega))⟩
theorem Sl.qu {qs:List ((Int × Int) × Int)} (h:Sl w B A (quCs qs)) {k:Nat} {q:(Int × Int) × Int} (hk:qs[k]?=some q) :
 ∃ b off,A=some ⟨b,off,none⟩∧b<B∧w.cell? ⟨b,off+k*3,none⟩=some (.int .i64 q.1.1)∧w.cell? ⟨b,off+k*3+1,none⟩=some (.int .i64 q.1.2)∧w.cell? ⟨b,off+k*3+2,none⟩=some (.int .u64 q.2):=by
 have hl:=flat_length (fun q:(Int × Int) × Int=>[Value.int .i64 q.1.1,.int .i64 q.1.2,.int .u64 q.2]) 3 (fun _=>rfl) qs
 have hlt:k<qs.length:=(List.getElem?_eq_some_iff.1 hk).1
 obtain ⟨b,off,rfl,hB,hc⟩:=h.open_ (by unfold quCs;rw [hl];omega)
 have g:=flat_get (fun q:(Int × Int) × Int=>[Value.int .i64 q.1.1,.int .i64 q.1.2,.int .u64 q.2]) 3 (fun _=>rfl) qs k q hk
 exact ⟨b,off,rfl,hB,hc _ _ (g 0 (by omega)),hc _ _ (g 1 (by omega)),hc _ _ (g 2 (by omega))⟩
end
section
variable (P:Nat→Prop) (g:Nat) (bs:List Int) (w:World) (B:Nat) (A:Option Addr) (c:Nat)
variable (hP:∀ k,P k→k<w.heap.size) (hw:WS w P g bs) (hlen:bs.length≤400000) (hB:∀ k,k<B→P k)
include hP hw hlen hB
end
end
section
open Go.RowKit
abbrev Gr:=Rg × List (Int × Int)
def GsOk (w:World) (B:Nat) (gs:List Gr):Prop:=∀ g∈gs,g.1.n=g.2.length∧Sl w B g.1.A (ptCs g.2)
section
variable (op vs pts:Int) (hrs:List Rg) (HA:Option Addr) (hc:Nat) (gs:List Gr) (GA:Option Addr) (gc:Nat) (ps:List (Int × Int)) (PA:Option Addr) (pc:Nat) (qs:List ((Int × Int) × Int)) (QA:Option Addr) (qc:Nat) (w:World)
variable (hh:Sl w w.heap.size HA (rgCells hrs)) (hgc:Sl w w.heap.size GA (rgCells (gs.map (·.1)))) (hgs:GsOk w w.heap.size gs) (hps:Sl w w.heap.size PA (ptCs ps)) (hqs:Sl w w.heap.size QA (quCs qs))
variable (hn:hrs.length≤maxLen)
include hh hgc hgs hps hqs hn
end
end
section
open Go.RowKit
def le:List Int→Int
 | []=>0
 | b::t=>b+256*le t
def By (bs:List Int):Prop:=∀ x∈bs,0≤x∧x≤255
theorem By.tail {b:Int} {t:List Int} (h:By (b::t)):By t:=fun x hx=>h x (by simp [hx])
theorem By.head {b:Int} {t:List Int} (h:By (b::t)):0≤b∧b≤255:=h b (by simp)
theorem By.take {l:List Int} (h:By l) (k:Nat):By (l.take k):=fun x hx=>h x (List.mem_of_mem_take hx)
theorem By.drop {l:List Int} (h:By l) (k:Nat):By (l.drop k):=fun x hx=>h x (List.mem_of_mem_drop hx)
def RS (w:World) (P:Nat→Prop) (B g:Nat) (bs:List Int):Prop :=
 ∃ A c,Blk w g 264 #[.slice A bs.length c]∧¬ P g∧bs.length≤c∧Sl w B A (byCells bs)
section
variable {w w':World} {P R:Nat→Prop} {B g:Nat} {bs:List Int}
theorem RS.lt (h:RS w P B g bs):g<w.heap.size:=by obtain ⟨A,c,h1,_⟩:=h;exact h1.lt
theorem RS.step (h:RS w P B g bs) (hb:Below w.heap.size w w') (hB:∀ k,k<B→P k) (hP:∀ k,P k→k<w.heap.size):RS w' P B g bs:=by
 obtain ⟨A,c,h1,h2,h3,h4⟩:=h
 exact ⟨A,c,h1.step hb,h2,h3,h4.kept (KeepP.of_below hb hP) hB⟩
theorem RS.mono (h:RS w P B g bs) (hR:∀ k,R k→P k):RS w R B g bs:=by
 obtain ⟨A,c,h1,h2,h3,h4⟩:=h
 exact ⟨A,c,h1,fun hr=>h2 (hR _ hr),h3,h4⟩
theorem KeepP.set {b:Nat} (hb:¬ P b) (o:Nat) (u:Value) (w:World):KeepP P w (w.setCell ⟨b,o,none⟩ u) :=
 ⟨rfl,rfl,rfl,by rw [World.size_setCell];exact Nat.le_refl _,fun k hk=>Below.heap_setCell w _ u k (by rintro rfl;exact hb hk)⟩
theorem RS.far (h:RS w P B g bs) {b:Nat} (hg:g≠b) (hb:¬ P b) (hB:∀ k,k<B→P k) (o:Nat) (u:Value):RS (w.setCell ⟨b,o,none⟩ u) P B g bs:=by
 obtain ⟨A,c,h1,h2,h3,h4⟩:=h
 exact ⟨A,c,h1.far (p:=⟨b,o,none⟩) hg u,h2,h3,h4.kept (KeepP.set hb o u w) hB⟩
theorem RS.more (h:RS w P B g bs) (hb:Below w.heap.size w w') (hB:∀ k,k<B→P k) (hP:∀ k,P k→k<w.heap.size):RS w' (More P w w') B g bs:=by
 have hl:=h.lt
 obtain ⟨A,c,h1,h2,h3,h4⟩:=h.step hb hB hP
 exact ⟨A,c,h1,fun hm=>by rcases hm with hm | hm;exact h2 hm;omega,h3,h4⟩
end
section
variable (P:Nat→Prop) (B g:Nat) (w:World) (hB:∀ k,k<B→P k)
include hB
end
end
section
open Go.RowKit
def recAt (bs:List Int) (i:Nat):Int × Int:=(bs.getD (9*i) 0,le ((bs.drop (9*i+1)).take 8))
def recsOf (bs:List Int) (n:Nat):List (Int × Int):=(List.range n).map (recAt bs)
theorem rec_info:(Tryz.prog.info? 148).map (fun i=>(i.zero,i.size,i.bytes))=some (some (.agg #[.int .u64 0,.int .u64 0]),2,16):=by kernel_rfl
theorem make_recs (n:Nat) (hn:n≤1000000) (w:World):(Instr.makeSlice 110 (.int .i64 (n:Int)) (.int .i64 (n:Int))).run Tryz.prog w=.ok (.slice (some ⟨w.heap.size,0,none⟩) n n) (w.alloc (.cells (madeCells #[.int .u64 0,.int .u64 0] (n*2)) 148)):=by
 obtain ⟨i,hi,hz0,hz1,hz2⟩:=info_parts rec_info
 have h:=run_make (P:=Tryz.prog) w 110 148 i _ Tryz.underlying110 hi hz0 .i64 .i64 n n (by omega) (Int.le_refl _) (by rw [hz2];omega) (by omega)
 rw [hz1] at h
 simpa [Value.cells] using h
theorem sl_of_cells {w:World} {g:Nat} {t:TypeId} {cs:Array Value} (h:Blk w g t cs) {xs:List Value} (hx:∀ (j:Nat) u,xs[j]?=some u→cs[j]?=some u):Sl w w.heap.size (some ⟨g,0,none⟩) xs :=
 Sl.mk h.lt fun j u hu=>by rw [Nat.zero_add];exact h.cell (hx j u hu)
section
variable (P:Nat→Prop) (B g:Nat) (w:World) (hB:∀ k,k<B→P k)
include hB
end
end
section
open Go.RowKit
def recOk (cnt:Int) (i:Nat) (r:Int × Int):Bool:=if (i:Int)<cnt then r.1 == 1 else (r.1 == 0 && r.2 == 0)
def okFrom (cnt:Int):Nat→List (Int × Int)→Bool
 | _,[]=>true
 | i,r::t=>recOk cnt i r && okFrom cnt (i+1) t
def most (op:Int):Int:=if op=3 then 3 else if op=5 then 1 else 2
def aLim (val pts:Int):Int:=if val=0 then 0 else pts
def isAns (op pts val cnt:Int) (recs:List (Int × Int)):Bool :=
 if val<0 then false else if most op<val then false else if (recs.length:Int)≠pts then false else if cnt<0 then false else if aLim val pts<cnt then false else okFrom cnt 0 recs
section
variable (op vs pts val cnt:Int) (HA RA:Option Addr) (hn hc rc:Nat) (recs:List (Int × Int)) (w:World)
variable (hs:Sl w w.heap.size RA (recCs recs)) (hrn:recs.length≤maxLen) (hp0:0≤pts) (hp1:pts≤4096)
include hs hrn hp0 hp1
end
end
section
open Go.RowKit
structure Ans where
 val:Int
 cnt:Int
 recs:List (Int × Int)
def ansZero:Ans:=⟨0,0,[]⟩
def rdAns (op pts:Int) (bs:List Int):Ans :=
 ⟨bs.getD 1 0,if op=5 then bs.getD 2 0+bs.getD 3 0*256 else 0,if op=5 then recsOf (bs.drop 4) pts.toNat else []⟩
def hread (op vs:Int) (hrs:List Rg) (pts:Int) (bs:List Int):Ans × Int :=
 if hcheck op vs hrs pts≠0 then (ansZero,hcheck op vs hrs pts)
 else if bs.length=1 then (ansZero,if 4≤bs.getD 0 0∧bs.getD 0 0≤8 then bs.getD 0 0 else 10)
 else if (bs.length:Int)≠hresp op vs hrs pts then (ansZero,8)
 else if bs.getD 0 0≠0 then (ansZero,10)
 else if isAns op pts (rdAns op pts bs).val (rdAns op pts bs).cnt (rdAns op pts bs).recs=false then (ansZero,10)
 else (rdAns op pts bs,0)
section
variable (op vs pts:Int) (hrs:List Rg) (HA:Option Addr) (hc:Nat) (bs:List Int) (BA:Option Addr) (bc:Nat) (w:World)
variable (hh:Sl w w.heap.size HA (rgCells hrs)) (hn:hrs.length≤maxLen) (hs:Sl w w.heap.size BA (byCells bs)) (hbc:bs.length≤bc) (hbl:bs.length≤100000) (hby:By bs)
include hh hn hs hbc hbl hby
end
end
section
open Go.RowKit
def eight (bs:List Int) (k:Nat):List Int:=(bs.drop k).take 8
section
variable (P:Nat→Prop) (B g:Nat) (w:World) (hB:∀ k,k<B→P k)
include hB
end
theorem qu_info:(Tryz.prog.info? 46).map (fun i=>(i.zero,i.size,i.bytes))=some (some (.agg #[.int .i64 0,.int .i64 0,.int .u64 0]),3,24):=by kernel_rfl
section
variable (P:Nat→Prop) (B g:Nat) (w:World) (hB:∀ k,k<B→P k)
include hB
end
end
section
open Go.RowKit
abbrev Gd:=Bool × Int × List (Int × Int)
structure Rq where
 h:PH
 gs:List Gd
 ps:List (Int × Int)
 qs:List ((Int × Int) × Int)
def rqZero:Rq:=⟨phZero,[],[],[]⟩
def gdOf (g:Gr):Gd:=(g.1.d,g.1.v,g.2)
structure ReadsRq (w:World) (B:Nat) (q:Rq) (hrs:List Rg) (HA:Option Addr) (gs:List Gr) (GA PA QA:Option Addr):Prop where
 hh:Sl w B HA (rgCells hrs)
 hk:hrs.map Rg.key=q.h.rs.map Rg.key
 hg:Sl w B GA (rgCells (gs.map (·.1)))
 gk:GsOk w B gs
 gd:gs.map gdOf=q.gs
 hp:Sl w B PA (ptCs q.ps)
 hq:Sl w B QA (quCs q.qs)
theorem ReadsRq.zero (w:World) (B:Nat):ReadsRq w B rqZero [] none [] none none none :=
 ⟨.nil _ _ _,rfl,.nil _ _ _,fun g hg=>by simp at hg,rfl,.nil _ _ _,.nil _ _ _⟩
theorem ReadsRq.below {w w':World} {B:Nat} {q:Rq} {hrs:List Rg} {HA:Option Addr} {gs:List Gr} {GA PA QA:Option Addr} (h:ReadsRq w B q hrs HA gs GA PA QA) (hb:Below B w w'):ReadsRq w' B q hrs HA gs GA PA QA :=
 ⟨h.hh.below hb,h.hk,h.hg.below hb,fun g hg=>⟨(h.gk g hg).1,(h.gk g hg).2.below hb⟩,h.gd,h.hp.below hb,h.hq.below hb⟩
theorem ReadsRq.more {w:World} {B B':Nat} {q:Rq} {hrs:List Rg} {HA:Option Addr} {gs:List Gr} {GA PA QA:Option Addr} (h:ReadsRq w B q hrs HA gs GA PA QA) (hB:B≤B'):ReadsRq w B' q hrs HA gs GA PA QA :=
 ⟨h.hh.more hB,h.hk,h.hg.more hB,fun g hg=>⟨(h.gk g hg).1,(h.gk g hg).2.more hB⟩,h.gd,h.hp.more hB,h.hq.more hB⟩
end
section
open Go.RowKit
section
variable {w w' wa:World} {B C g:Nat} {A:Option Addr} {xs:List Value} {P:Nat→Prop} {bs:List Int}
def QI (w:World) (C:Nat) (gs:List Gr) (v:Value):Prop :=
 w.ownsRow C 38 3 v gs.length (rgCells (gs.map (·.1)))∧∀ g∈gs,g.1.n=g.2.length∧Sl w w.heap.size g.1.A (ptCs g.2)∧(ptCs g.2≠[]→∀ x,g.1.A=some x→C≤x.block∧v.ownBlock≠some x.block)
theorem QI.nil (w:World) (C:Nat):QI w C [] (.slice none 0 0):=⟨World.ownsRow_nil _ _ _ _,fun g hg=>by simp at hg⟩
end
end
section
open Go.RowKit Go.Maps
abbrev Ev:=Int × Int × Int
def evCs (es:List Ev):List Value:=es.flatMap fun e=>[.int .i64 e.1,.int .i64 e.2.1,.int .i64 e.2.2]
theorem evCs_snoc (es:List Ev) (k a b:Int):evCs (es++[(k,a,b)])=evCs es++[.int .i64 k,.int .i64 a,.int .i64 b]:=by simp [evCs]
def tapeA:Option (Nat × Nat)→Option Addr
 | none=>none
 | some t=>some ⟨t.1,0,none⟩
def TpIn (w:World) (P:Nat→Prop) (g m:Nat) (es:List Ev):Prop :=
 ∃ v n D,Blk w g 377 #[v,.map (some m)]∧¬ P g∧¬ P m∧w.ownsRow 0 273 3 v es.length (evCs es)∧v.ownBlock≠some g∧(∀ k,v.ownBlock=some k→¬ P k∧k≠m)∧n≤es.length∧w.ownsMap (H:=Unit) Tryz.prog 3 (plainElem Tryz.prog 3) m n D
def Tp (w:World) (P:Nat→Prop):Option (Nat × Nat)→List Ev→Prop
 | none,_=>True
 | some t,es=>TpIn w P t.1 t.2 es
structure KeepsM (t:Option (Nat × Nat)) (w w':World):Prop where
 size:w.heap.size≤w'.heap.size
 same:∀ (k:Nat) (o:Obj),w.heap[k]?=some o→o.isCells=false→(∀ u,t=some u→k≠u.2)→w'.heap[k]?=some o
section
variable {w w' w'':World} {P R:Nat→Prop} {t:Option (Nat × Nat)} {es:List Ev}
theorem KeepsM.refl (t:Option (Nat × Nat)) (w:World):KeepsM t w w:=⟨Nat.le_refl _,fun _ _ h _ _=>h⟩
theorem KeepsM.trans (h:KeepsM t w w') (k:KeepsM t w' w''):KeepsM t w w'':=⟨Nat.le_trans h.size k.size,fun i o hi ho hn=>k.same i o (h.same i o hi ho hn) ho hn⟩
theorem KeepsM.of (h:KeepsOthers w w'):KeepsM t w w':=⟨h.size,fun i o hi ho _=>h.same i o hi ho⟩
theorem KeepsM.below (h:Below w.heap.size w w'):KeepsM t w w':=⟨h.size,fun i _ hi _ _=>(h.block i (Array.getElem?_eq_some_iff.1 hi).1).trans hi⟩
theorem KeepsM.from {B:Nat} (h:KeepsM t w w') (hB:∀ u,t=some u→u.2<B):KeepsFrom B w w':=⟨h.size,fun i o hb hi ho=>h.same i o hi ho fun u hu=>by have:=hB u hu;omega⟩
theorem own_lt' {base:Nat} {e:TypeId} {size n:Nat} {v:Value} {xs:List Value} (h:w.ownsRow base e size v n xs) {k:Nat} (hk:v.ownBlock=some k):k<w.heap.size:=by
 rcases h.2 with ⟨rfl,_⟩ | ⟨g',cap,cur,rfl,hb,hh,_⟩
 · simp [Value.ownBlock] at hk
 · have:g'=k:=by simpa [Value.ownBlock] using hk
   subst this;exact Blk.lt hh
theorem own_cells {base:Nat} {e:TypeId} {size n:Nat} {v:Value} {xs:List Value} (h:w.ownsRow base e size v n xs) {k:Nat} (hk:v.ownBlock=some k):∃ o:Obj,w.heap[k]?=some o∧o.isCells=true:=by
 rcases h.2 with ⟨rfl,_⟩ | ⟨g',cap,cur,rfl,hb,hh,_⟩
 · simp [Value.ownBlock] at hk
 · have:g'=k:=by simpa [Value.ownBlock] using hk
   subst this;exact ⟨_,hh,rfl⟩
theorem own_kept {base:Nat} {e:TypeId} {size n:Nat} {v:Value} {xs:List Value} {row:Option Nat} (h:w.ownsRow base e size v n xs) (hb:w.grownBy w' row) (hne:∀ k,v.ownBlock=some k→some k≠row):w'.ownsRow base e size v n xs:=by
 refine ⟨h.1,?_⟩
 rcases h.2 with h0 | ⟨g',cap,cur,hv,hb1,hh,r⟩
 · exact .inl h0
 · subst hv
   exact .inr ⟨g',cap,cur,rfl,hb1,(hb.block g' (Blk.lt hh) (hne g' (by simp [Value.ownBlock]))).trans hh,r⟩
theorem below_grown (h:Below w.heap.size w w'):w.grownBy w' none:=⟨h.os,h.tape,h.output,h.size,fun k hk _=>h.block k hk⟩
theorem TpIn.step {g m:Nat} (h:TpIn w P g m es) (hb:Below w.heap.size w w'):TpIn w' P g m es:=by
 obtain ⟨v,n,D,h1,h2,h3,h4,h5,h6,h7,h8⟩:=h
 exact ⟨v,n,D,h1.step hb,h2,h3,own_step h4 hb,h5,h6,h7,h8.kept (below_grown hb) (by simp)⟩
theorem Tp.step (h:Tp w P t es) (hb:Below w.heap.size w w'):Tp w' P t es:=by
 cases t with
 | none=>trivial
 | some t=>exact TpIn.step h hb
theorem Tp.mono (h:Tp w P t es) (hR:∀ k,R k→P k):Tp w R t es:=by
 cases t with
 | none=>trivial
 | some t =>
   obtain ⟨v,n,D,h1,h2,h3,h4,h5,h6,h7,h8⟩:=h
   exact ⟨v,n,D,h1,fun h=>h2 (hR _ h),fun h=>h3 (hR _ h),h4,h5,fun k hk=>⟨fun h=>(h6 k hk).1 (hR _ h),(h6 k hk).2⟩,h7,h8⟩
theorem Tp.add (h:Tp w P t es) (hR:∀ k,R k→P k∨w.heap.size≤k):Tp w R t es:=by
 cases t with
 | none=>trivial
 | some t =>
   obtain ⟨v,n,D,h1,h2,h3,h4,h5,h6,h7,h8⟩:=h
   have l1:=h1.lt
   have l2:=h8.lt
   refine ⟨v,n,D,h1,fun h=>?_,fun h=>?_,h4,h5,fun k hk=>⟨fun h=>?_,(h6 k hk).2⟩,h7,h8⟩
   · rcases hR _ h with h | h
     · exact h2 h
     · omega
   · rcases hR _ h with h | h
     · exact h3 h
     · omega
   · have:=own_lt' h4 hk
     rcases hR _ h with h | h
     · exact (h6 k hk).1 h
     · omega
theorem Tp.more (h:Tp w P t es) (hb:Below w.heap.size w w'):Tp w' (More P w w') t es :=
 (h.add (R:=More P w w') fun k hk=>by rcases hk with hk | hk;exact .inl hk;exact .inr hk.1).step hb
theorem Tp.kept {b:Nat} (h:Tp w P t es) (hg:w.grownBy w' (some b)) (hb:P b):Tp w' P t es:=by
 cases t with
 | none=>trivial
 | some t =>
   obtain ⟨v,n,D,h1,h2,h3,h4,h5,h6,h7,h8⟩:=h
   refine ⟨v,n,D,h1.grown hg (fun e=>by cases e;exact h2 hb),h2,h3,own_kept h4 hg (fun k hk e=>by cases e;exact (h6 _ hk).1 hb),h5,h6,h7,h8.kept hg (fun e=>by cases e;exact h3 hb)⟩
theorem Tp.set {b:Nat} (h:Tp w P t es) (hb:P b) (o:Nat) (u:Value):Tp (w.setCell ⟨b,o,none⟩ u) P t es :=
 h.kept (b:=b) ⟨rfl,rfl,rfl,Nat.le_of_eq (World.size_setCell ..).symm,fun k _ hk=>Below.heap_setCell w ⟨b,o,none⟩ u k (fun e=>hk (by rw [e]))⟩ hb
theorem Tp.drew (h:Tp w P t es):Tp w.drew P t es:=h.step (bl_drew (Below.refl _ _))
theorem tp_ownFrom {β:Type} (B:Nat) (P:Nat→Prop) (t:Option (Nat × Nat)) (f:β→List Ev) (hm:∀ u,t=some u→u.2<B):OwnFrom B (fun s W=>Tp W P t (f s)):=by
 intro s X Y row hs hg hr
 cases t with
 | none=>trivial
 | some t =>
   obtain ⟨v,n,D,h1,h2,h3,h4,h5,h6,h7,h8⟩:=hs
   refine ⟨v,n,D,h1.grown hg (fun e=>?_),h2,h3,own_kept h4 hg (fun k hk e=>?_),h5,h6,h7,h8.kept hg (fun e=>?_)⟩
   · obtain ⟨_,o,ho,hc⟩:=hr _ e.symm
     rw [show X.heap[t.1]?=_ from h1] at ho
     cases ho;cases hc
   · obtain ⟨_,o,ho,hc⟩:=hr _ e.symm
     obtain ⟨o',ho',hc'⟩:=own_cells h4 hk
     rw [ho'] at ho
     cases ho
     rw [hc'] at hc;cases hc
   · have:=(hr _ e.symm).1
     have:=hm t rfl
     omega
end
def SlP (w:World) (P:Nat→Prop) (A:Option Addr) (xs:List Value):Prop :=
 xs=[]∨∃ b off,A=some ⟨b,off,none⟩∧P b∧∀ j u,xs[j]?=some u→w.cell? ⟨b,off+j,none⟩=some u
section
variable {w w':World} {P R:Nat→Prop} {A:Option Addr} {xs:List Value}
theorem SlP.kept (h:SlP w P A xs) (hk:KeepP P w w'):SlP w' P A xs:=by
 rcases h with h | ⟨b,off,hA,hb,hc⟩
 · exact .inl h
 · exact .inr ⟨b,off,hA,hb,fun j u hu=>(hk.cell hb _).trans (hc j u hu)⟩
theorem SlP.mono (h:SlP w P A xs) (hR:∀ k,P k→R k):SlP w R A xs:=by
 rcases h with h | ⟨b,off,hA,hb,hc⟩
 · exact .inl h
 · exact .inr ⟨b,off,hA,hR _ hb,hc⟩
theorem SlP.sl {B:Nat} (h:SlP w P A xs) (hP:∀ k,P k→k<B):Sl w B A xs:=by
 rcases h with h | ⟨b,off,hA,hb,hc⟩
 · exact .inl h
 · exact .inr ⟨b,off,hA,hP _ hb,hc⟩
theorem Sl.slP {B:Nat} (h:Sl w B A xs) (hP:∀ k,k<B→P k):SlP w P A xs:=by
 rcases h with h | ⟨b,off,hA,hb,hc⟩
 · exact .inl h
 · exact .inr ⟨b,off,hA,hP _ hb,hc⟩
theorem KeepP.putObj {l:Nat} (o:Obj) (hl:¬ P l) (W:World):KeepP P W (W.putObj l o) :=
 ⟨rfl,rfl,rfl,by simp,fun k hk=>World.putObj_heap_other (fun e=>hl (e ▸ hk))⟩
theorem KeepP.setCell {b:Nat} (hb:¬ P b) (o:Nat) (u:Value) (W:World):KeepP P W (W.setCell ⟨b,o,none⟩ u) :=
 ⟨rfl,rfl,rfl,Nat.le_of_eq (World.size_setCell ..).symm,fun k hk=>Below.heap_setCell W ⟨b,o,none⟩ u k (fun e=>hb (by have e:k=b:=e;rw [← e];exact hk))⟩
theorem keepP_ownFrom {β:Type} {B:Nat} {P:Nat→Prop} {w₀:World} (hB:∀ k,P k→k<w₀.heap.size∧k<B):OwnFrom B (fun (_:β) W=>KeepP P w₀ W) :=
 fun _ X Y row hs hg hr=>⟨hg.os.trans hs.os,hg.tape.trans hs.tape,hg.output.trans hs.output,Nat.le_trans hs.size hg.size,fun k hk =>
  (hg.block k (Nat.lt_of_lt_of_le (hB k hk).1 hs.size) (fun e=>by have:=(hr k e.symm).1;have:=(hB k hk).2;omega)).trans (hs.block k hk)⟩
end
section
variable {w w':World} {P R:Nat→Prop} {t:Option (Nat × Nat)} {es:List Ev}
theorem Tp.m_lt (h:Tp w P t es):∀ u,t=some u→u.2<w.heap.size:=by
 rintro u rfl
 obtain ⟨v,n,D,h1,h2,h3,h4,h5,h6,h7,h8⟩:=h
 exact h8.lt
theorem Tp.putObj {l:Nat} {o:Obj} (h:Tp w P t es) (hm:∀ u,t=some u→u.2<l) (hl:w.heap[l]?=some o) (ho:o.isCells=false) (o':Obj):Tp (w.putObj l o') P t es :=
 (tp_ownFrom l P t (fun _:Unit=>es) hm).putObj (s:=()) o' h (Nat.le_refl _) hl ho
theorem Tp.with {es':List Ev} (h:Tp w P t es) (h':Tp w R t es'):Tp w R t es:=by
 cases t with
 | none=>trivial
 | some t =>
   obtain ⟨v,n,D,h1,h2,h3,h4,h5,h6,h7,h8⟩:=h
   obtain ⟨v',n',D',k1,k2,k3,k4,k5,k6,k7,k8⟩:=h'
   have e:v'=v:=by
    have e1:=(show w.heap[t.1]?=_ from k1).symm.trans h1
    injection e1 with e1
    injection e1 with e1
    have:=congrArg (fun c=>c[0]?) e1
    simpa using this
   subst e
   exact ⟨v',n,D,h1,k2,k3,h4,h5,k6,h7,h8⟩
end
theorem ev_info:(Tryz.prog.info? 273).map (fun i=>(i.zero,i.size,i.bytes))=some (some (.agg #[.int .i64 0,.int .i64 0,.int .i64 0]),3,24):=by kernel_rfl
theorem zeroInt (w:World):(zeroValue 3).run Tryz.prog w=.ok (.int .i64 0) w:=by kernel_rfl
theorem keyedInt:Keyed Tryz.prog 3:=int_keyed Tryz.underlying3
def I64w (x:Int):Prop:=-9223372036854775808≤x∧x≤9223372036854775807
theorem I64w.wf {x:Int} (h:I64w x):(Lit.int .i64 x).wf=true:=by unfold I64w at h;exact WalkArith.wf_i64 (by omega)
theorem tp_note {w w1 w3:World} {P:Nat→Prop} {g m g' cap n:Nat} {es:List Ev} {k a b:Int} {v:Value} {D':DataW Unit} {o:Obj} (hP:∀ j,P j→j<w.heap.size) (h1:Blk w g 377 #[v,.map (some m)]) (h2:¬ P g) (h3:¬ P m)
 (h4:w.ownsRow 0 273 3 v es.length (evCs es)) (h5:v.ownBlock≠some g) (h6:∀ k,v.ownBlock=some k→¬ P k∧k≠m) (h7:n≤es.length) (hml:m<w.heap.size) (hgm:g≠m)
 (hown1:w1.ownsRow 0 273 3 (.slice (some ⟨g',0,none⟩) (es.length+1) cap) (es.length+1) (evCs es++[.int .i64 k,.int .i64 a,.int .i64 b]))
 (hgrow:(w.alloc o).grownBy w1 v.ownBlock) (hat:v.ownBlock=some g'∨g'=w.heap.size+1)
 (hown3:w3.ownsMap (H:=Unit) Tryz.prog 3 (plainElem Tryz.prog 3) m (n+1) D') (hgrow3:(w1.setCell ⟨g,0,none⟩ (.slice (some ⟨g',0,none⟩) (es.length+1) cap)).grownBy w3 (some m)) :
 KeepP P w w3∧KeepsM (some (g,m)) w w3∧TpIn w3 P g m (es++[(k,a,b)]):=by
 have hgl:=h1.lt
 have hs1:=hgrow.size
 rw [World.size_alloc] at hs1
 have hs3:=hgrow3.size
 rw [World.size_setCell] at hs3
 have hgg:g'≠g∧g'≠m∧¬ P g':=by
  rcases hat with h | h
  · exact ⟨fun e=>h5 (by rw [h,e]),(h6 _ h).2,(h6 _ h).1⟩
  · exact ⟨by omega,by omega,fun hp=>by have:=hP _ hp;omega⟩
 have key:∀ j,j<w.heap.size→j≠g→j≠m→v.ownBlock≠some j→w3.heap[j]?=w.heap[j]?:=fun j hj hg hm hv=>by
  refine (hgrow3.block j (by rw [World.size_setCell];omega) (fun e=>hm (by cases e;rfl))).trans ?_
  refine (Below.heap_setCell w1 ⟨g,0,none⟩ _ j hg).trans ?_
  refine (hgrow.block j (by rw [World.size_alloc];omega) (fun e=>hv e.symm)).trans (Below.heap_alloc w o j hj)
 refine ⟨⟨hgrow3.os.trans hgrow.os,hgrow3.tape.trans hgrow.tape,hgrow3.output.trans hgrow.output,by omega,fun j hj=>key j (hP j hj) (fun e=>h2 (e ▸ hj)) (fun e=>h3 (e ▸ hj)) (fun e=>(h6 _ e).1 hj)⟩,⟨by omega,fun j o' ho hc hn=>?_⟩,?_⟩
 · have hj:=(Array.getElem?_eq_some_iff.1 ho).1
   refine (key j hj (fun e=>?_) (hn (g,m) rfl) (fun e=>?_)).trans ho
   · subst e
     rw [show w.heap[j]?=_ from h1] at ho
     cases ho;cases hc
   · obtain ⟨o2,ho2,hc2⟩:=own_cells h4 e
     rw [ho2] at ho
     cases ho
     rw [hc2] at hc;cases hc
 · refine ⟨_,n+1,_,(((h1.alloc o).grown hgrow (Ne.symm h5)).set 0 (.slice (some ⟨g',0,none⟩) (es.length+1) cap)).grown hgrow3 (fun e=>hgm (by cases e;rfl)),h2,h3,?_,?_,?_,by simp;omega,hown3⟩
   · have e1:(es++[(k,a,b)]).length=es.length+1:=by simp
     rw [evCs_snoc,e1]
     refine own_kept (own_set hown1 (by simpa [Value.ownBlock] using hgg.1) _) hgrow3 (fun j hj e=>?_)
     have:g'=j:=by simpa [Value.ownBlock] using hj
     exact hgg.2.1 (by cases e;exact this)
   · simpa [Value.ownBlock] using hgg.1
   · intro j hj
     have:g'=j:=by simpa [Value.ownBlock] using hj
     subst this
     exact ⟨hgg.2.2,hgg.2.1⟩
theorem note_nil (k a b:Value) (w:World):Calls Tryz.prog 259 #[.pointer none,k,a,b] w fun e w'=>e=.returned (.tuple #[])∧w=w':=by
 go_enter Tryz.func259,Tryz.ntmps259
 go_wp2
 refine bodyPost_ret (results_none rfl _ _ _) rfl ?_
 exact ⟨rfl,rfl⟩
theorem note_in (P:Nat→Prop) (g m:Nat) (es:List Ev) (k a b:Int) (w:World) (hP:∀ j,P j→j<w.heap.size) (ht:TpIn w P g m es) (hl:es.length≤1000000) (hk:I64w k) :
 Calls Tryz.prog 259 #[.pointer (some ⟨g,0,none⟩),.int .i64 k,.int .i64 a,.int .i64 b] w fun e w'=>e=.returned (.tuple #[])∧KeepP P w w'∧KeepsM (some (g,m)) w w'∧TpIn w' P g m (es++[(k,a,b)]):=by
 obtain ⟨v,n,D,h1,h2,h3,h4,h5,h6,h7,h8⟩:=ht
 have c0:w.cell? ⟨g,0,none⟩=some v:=h1.cell (i:=0) rfl
 have f0:=h1.frozen 0
 have hgl:=h1.lt
 have hml:=h8.lt
 obtain ⟨i0,hi,hz0,hz1,hz2⟩:=info_parts ev_info
 have hgm:g≠m:=by
  rintro rfl
  obtain ⟨es',clock,hb,_⟩:=h8
  rw [show w.heap[g]?=_ from h1] at hb
  cases hb
 have HP:=hide hP;have H6:=hide h6;have HK:=hide hk.wf;have H1:=hide h1;have H8:=hide h8
 clear hP h6 hk h1 h8
 go_enter Tryz.func259,Tryz.ntmps259
 go_wp2_with (first
  | (at_builtin;refine wpList_append_lies _ rfl (.tmp 14) (.tmp 19) 123 rfl 0 273 i0 (.agg #[.int .i64 0,.int .i64 0,.int .i64 0]) 3 24 Tryz.underlying123 hi hz0 hz1 hz2 rfl (by decide) v es.length _ rfl (own_step h4 (bA)) ⟨w.heap.size,0,none⟩ 1 1 [.int .i64 k,.int .i64 a,.int .i64 b] rfl rfl ?a1 ?a2 ?a3 ?a4 ?a5 ?a6 (w.heap.size+1) ?a7 ?_;rotate_right;intro g' cap w1 hown1 hgrow hat hlt';have B1:=(H1.out.alloc (.cells #[.int .i64 k,.int .i64 a,.int .i64 b] 273)).grown hgrow (Ne.symm h5);have d1:w1.cell? ⟨g,0,none⟩=some v:=B1.cell (i:=0) rfl;have e1:=B1.frozen 0;have d2:w1.cell? ⟨g,1,none⟩=some (.map (some m)):=B1.cell (i:=1) rfl;have M1:=hide ((H8.out.alloc (.cells #[.int .i64 k,.int .i64 a,.int .i64 b] 273)).kept hgrow (fun e=>(H6.out m e.symm).2 rfl));have B1:=hide B1)
  | (at_lookup;refine wpList_lookup_own_int _ rfl _ _ 375 rfl 3 3 .i64 keyedInt Tryz.underlying375 Tryz.underlying3 (zeroInt _) m n D rfl ?b1 _ (.int .i64 k) rfl ?b2 ?_;rotate_right;intro c hat2 hwc)
  | (at_mapUpdate;refine wpList_mapUpdate_own _ rfl _ _ _ 375 rfl 3 3 keyedInt Tryz.underlying375 _ m n D rfl ?c1 ?c2 _ _ (.int .i64 k) rfl rfl ?c3 _ [] (plainElem_int Tryz.underlying3 (wrap64_wf _)) ?_;rotate_right;intro w3 hown3 hgrow3))
 case c1=>exact M1.out.kept (grownBy_setCell' _ _ _) (fun e=>hgm (by cases e;rfl))
 case c2=>unfold maxLen;omega
 case c3=>exact keyOf_int_mk Tryz.underlying3 HK.out
 case b1=>exact M1.out.kept (grownBy_setCell' _ _ _) (fun e=>hgm (by cases e;rfl))
 case b2=>exact keyOf_int_mk Tryz.underlying3 HK.out
 case a1=>exact blk_cells (Blk.new _ _ _)
 case a2=>simp [Value.oneCell']
 case a3=>omega
 case a4=>unfold maxLen;omega
 case a5=>omega
 case a6=>omega
 case a7=>simp
 go_end0
 exact ⟨rfl,tp_note HP.out H1.out h2 h3 h4 h5 H6.out h7 hml hgm hown1 hgrow hat hown3 hgrow3⟩
theorem note_any (P:Nat→Prop) (t:Option (Nat × Nat)) (es:List Ev) (k a b:Int) (w:World) (hP:∀ j,P j→j<w.heap.size) (ht:Tp w P t es) (hl:es.length≤1000000) (hk:I64w k) :
 Calls Tryz.prog 259 #[.pointer (tapeA t),.int .i64 k,.int .i64 a,.int .i64 b] w fun e w'=>e=.returned (.tuple #[])∧KeepP P w w'∧KeepsM t w w'∧Tp w' P t (es++[(k,a,b)]):=by
 cases t with
 | none =>
   refine (note_nil _ _ _ w).mono ?_
   rintro e w' ⟨he,rfl⟩
   exact ⟨he,KeepP.refl _ _,KeepsM.refl _ _,trivial⟩
 | some t=>exact note_in P t.1 t.2 es k a b w hP ht hl hk
end
end Go.Proofs.YthnenedoblncjaaGreatDoor
