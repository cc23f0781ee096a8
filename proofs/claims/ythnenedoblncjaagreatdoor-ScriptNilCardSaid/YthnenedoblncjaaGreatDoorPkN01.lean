/- U64 Each Encode Reader TakeRec Answer Read Take DecFacts -/
import Derived.BigQuiet
import Derived.ChangeAlike
import Derived.Deep.AppendLies
import Derived.Deep.QuietTactic
import Derived.Deep.RegionHeld3
import Derived.Deep.RegionLaw
import Derived.Laws.BitsAllLaws
import Derived.Laws.MakeOwn
import Derived.Test.YthnenedoblncjaaGreatDoorPkN00
set_option maxRecDepth 1000000
set_option maxHeartbeats 8000000
namespace Go.Proofs.YthnenedoblncjaaGreatDoor
open Go.Proofs.Tryz
section
open Go.RowKit
structure Z9(P:Nat->Prop)(w w':World):Prop where
 os:w'.os=w.os
 tape:w'.tape=w.tape
 output:w'.output=w.output
 size:w.heap.size<=w'.heap.size
 block:∀ k,P k->w'.heap[k]?=w.heap[k]?
section
variable {P R:Nat->Prop}{w w' w'':World}{B:Nat}
theorem Z9.refl(P:Nat->Prop)(w:World):Z9 P w w:=⟨rfl,rfl,rfl,Nat.le_refl _,fun _ _=>rfl⟩
theorem Z9.trans(h:Z9 P w w')(k:Z9 P w' w''):Z9 P w w'' :=
 ⟨k.os.trans h.os,k.tape.trans h.tape,k.output.trans h.output,Nat.le_trans h.size k.size,fun i hi=>(k.block i hi).trans (h.block i hi)⟩
theorem Z9.of_below(h:Below B w w')(hP:∀ k,P k->k<B):Z9 P w w':=⟨h.os,h.tape,h.output,h.size,fun k hk=>h.block k (hP k hk)⟩
theorem Z9.below(h:Z9 P w w')(hP:∀ k,k<B->P k):Below B w w':=⟨h.os,h.tape,h.output,h.size,fun k hk=>h.block k (hP k hk)⟩
theorem Z9.mono(h:Z9 P w w')(hP:∀ k,R k->P k):Z9 R w w':=⟨h.os,h.tape,h.output,h.size,fun k hk=>h.block k (hP k hk)⟩
theorem Z9.cell(h:Z9 P w w'){b:Nat}(hb:P b)(o:Nat):w'.cell? ⟨b,o,none⟩=w.cell? ⟨b,o,none⟩:=World.cell?_of_block (h.block b hb)
theorem Z9.frozen(h:Z9 P w w'){b:Nat}(hb:P b)(o:Nat):w'.frozen? ⟨b,o,none⟩=w.frozen? ⟨b,o,none⟩:=World.frozen?_of_block (h.block b hb)
theorem Z6.kept{g:Nat}{t:TypeId}{cs:Array Value}(hb:Z6 w g t cs)(h:Z9 P w w')(hP:P g):Z6 w' g t cs:=(h.block g hP).trans hb
theorem Sl.kept{A:Option Addr}{xs:List Value}(hs:Sl w B A xs)(h:Z9 P w w')(hP:∀ k,k<B->P k):Sl w' B A xs:=by
 rcases hs with hs|⟨b,off,hA,hlt,hc⟩
 · exact .inl hs
 · exact .inr ⟨b,off,hA,hlt,fun j u hu=>(h.cell (hP b hlt) _).trans (hc j u hu)⟩
end
def WS(w:World)(P:Nat->Prop)(g:Nat)(bs:List Int):Prop :=
 ∃ v,Z6 w g 250 #[v]/\¬ P g/\w.ownsRow 0 5 1 v bs.length (WT bs)/\v.ownBlock≠some g/\∀ k,v.ownBlock=some k->¬ P k
section
variable (P:Nat->Prop)(g:Nat)(bs:List Int)(x:Int)(w:World)
variable (hP:∀ k,P k->k<w.heap.size)(hw:WS w P g bs)(hlen:bs.length<=1000000)
include hP hw hlen
end
end
section
open Go.RowKit
section
variable {w w':World}{P R:Nat->Prop}{g:Nat}{bs:List Int}
theorem WS.lt(h:WS w P g bs):g<w.heap.size:=by
 obtain ⟨v,hb,_⟩:=h;exact hb.lt
theorem WS.step(h:WS w P g bs)(hb:Below w.heap.size w w'):WS w' P g bs:=by
 obtain ⟨v,h1,h2,h3,h4,h5⟩:=h;exact ⟨v,h1.step hb,h2,Zn h3 hb,h4,h5⟩
theorem WS.mono(h:WS w P g bs)(hR:∀ k,R k->P k):WS w R g bs:=by
 obtain ⟨v,h1,h2,h3,h4,h5⟩:=h;exact ⟨v,h1,fun hr=>h2 (hR _ hr),h3,h4,fun k hk hr=>h5 k hk (hR _ hr)⟩
def More(P:Nat->Prop)(w w':World)(k:Nat):Prop:=P k\/w.heap.size<=k/\k<w'.heap.size
theorem WS.more(h:WS w P g bs)(hb:Below w.heap.size w w'):WS w' (More P w w') g bs:=by
 obtain ⟨v,h1,h2,h3,h4,h5⟩:=h;have:=h1.lt;refine ⟨v,h1.step hb,fun h=>?_,Zn h3 hb,h4,fun k hk h=>?_⟩
 · rcases h with h|h
   · exact h2 h
   · omega
 · have:=BZ h3 hk;rcases h with h|h
   · exact h5 k hk h
   · omega
theorem Z9.more{w1:World}{P:Nat->Prop}(hb:Below w.heap.size w w')(hP:∀ k,P k->k<w.heap.size)(h:Z9 (More P w w') w' w1):Z9 P w w1 :=
 (Z9.of_below hb hP).trans (h.mono fun _ hk=>.inl hk)
theorem XZ{P:Nat->Prop}(hP:∀ k,P k->k<w.heap.size)(hb:Below w.heap.size w w'):∀ k,More P w w' k->k<w'.heap.size:=by
 intro k hk;rcases hk with hk|hk
 · exact Nat.lt_of_lt_of_le (hP k hk) hb.size
 · exact hk.2
end
section
variable (P:Nat->Prop)(g:Nat)(bs:List Int)(w:World)
variable (hP:∀ k,P k->k<w.heap.size)(hw:WS w P g bs)(hlen:bs.length<=900000)
include hP hw hlen
end
end
section
open Go.RowKit
def Uk(x:Int):Prop:=0<=x/\x<18446744073709551616
theorem Z9.drew(P:Nat->Prop)(w:World):Z9 P w w.drew:=⟨rfl,rfl,rfl,Nat.le_refl _,fun _ _=>rfl⟩
end
section
open Go.RowKit
def Y7(ps:List (Int × Int)):List Value:=ps.flatMap fun p=>[.int .i64 p.1,.int .i64 p.2]
def ZE(ps:List (Int × Int)):List Value:=ps.flatMap fun p=>[.int .u64 p.1,.int .u64 p.2]
def VK(qs:List ((Int × Int) × Int)):List Value:=qs.flatMap fun q=>[.int .i64 q.1.1,.int .i64 q.1.2,.int .u64 q.2]
theorem flat_get{α:Type}(f:α->List Value)(n:Nat)(hf:∀ a,(f a).length=n):∀ (l:List α) (i:Nat) (a:α),l[i]?=some a->∀ j,j<n->(l.flatMap f)[i*n+j]?=(f a)[j]?
 | [],i,a,h,j,hj=>by simp at h
 | b::l,0,a,h,j,hj=>by
   simp only [List.getElem?_cons_zero,Option.some.injEq] at h;subst h;rw [List.flatMap_cons,List.getElem?_append_left (by rw [hf];omega)]
   congr 1;omega
 | b::l,i+1,a,h,j,hj=>by
   have h':l[i]?=some a:=(by simpa using h);rw [List.flatMap_cons,List.getElem?_append_right (by rw [hf,Nat.succ_mul];omega),hf];have e:(i+1)*n+j - n=i*n+j:=(by rw [Nat.succ_mul];omega);rw [e];exact flat_get f n hf l i a h' j hj
theorem Zm{α:Type}(f:α->List Value)(n:Nat)(hf:∀ a,(f a).length=n)(l:List α):(l.flatMap f).length=l.length*n:=by
 induction l with
 | nil=>simp
 | cons a l ih=>rw [List.flatMap_cons,List.length_append,ih,hf,List.length_cons,Nat.succ_mul];omega
section
variable {w:World}{B:Nat}{A:Option Addr}
theorem Sl.pt{ps:List (Int × Int)}(h:Sl w B A (Y7 ps)){k:Nat}{p:Int × Int}(hk:ps[k]?=some p):
 ∃ b off,A=some ⟨b,off,none⟩/\b<B/\w.cell? ⟨b,off+k*2,none⟩=some (.int .i64 p.1)/\w.cell? ⟨b,off+k*2+1,none⟩=some (.int .i64 p.2):=by
 have hl:=Zm (fun p:Int × Int=>[Value.int .i64 p.1,.int .i64 p.2]) 2 (fun _=>rfl) ps;have hlt:k<ps.length:=(List.getElem?_eq_some_iff.1 hk).1;obtain ⟨b,off,rfl,hB,hc⟩:=h.open_ (by unfold Y7;rw [hl];omega);have g:=flat_get (fun p:Int × Int=>[Value.int .i64 p.1,.int .i64 p.2]) 2 (fun _=>rfl) ps k p hk;exact ⟨b,off,rfl,hB,hc _ _ (g 0 (by omega)),hc _ _ (g 1 (by omega))⟩
theorem Sl.vI{ps:List (Int × Int)}(h:Sl w B A (ZE ps)){k:Nat}{p:Int × Int}(hk:ps[k]?=some p):
 ∃ b off,A=some ⟨b,off,none⟩/\b<B/\w.cell? ⟨b,off+k*2,none⟩=some (.int .u64 p.1)/\w.cell? ⟨b,off+k*2+1,none⟩=some (.int .u64 p.2):=by
 have hl:=Zm (fun p:Int × Int=>[Value.int .u64 p.1,.int .u64 p.2]) 2 (fun _=>rfl) ps;have hlt:k<ps.length:=(List.getElem?_eq_some_iff.1 hk).1;obtain ⟨b,off,rfl,hB,hc⟩:=h.open_ (by unfold ZE;rw [hl];omega);have g:=flat_get (fun p:Int × Int=>[Value.int .u64 p.1,.int .u64 p.2]) 2 (fun _=>rfl) ps k p hk;exact ⟨b,off,rfl,hB,hc _ _ (g 0 (by omega)),hc _ _ (g 1 (by omega))⟩
theorem Sl.qu{qs:List ((Int × Int) × Int)}(h:Sl w B A (VK qs)){k:Nat}{q:(Int × Int) × Int}(hk:qs[k]?=some q):
 ∃ b off,A=some ⟨b,off,none⟩/\b<B/\w.cell? ⟨b,off+k*3,none⟩=some (.int .i64 q.1.1)/\w.cell? ⟨b,off+k*3+1,none⟩=some (.int .i64 q.1.2)/\w.cell? ⟨b,off+k*3+2,none⟩=some (.int .u64 q.2):=by
 have hl:=Zm (fun q:(Int × Int) × Int=>[Value.int .i64 q.1.1,.int .i64 q.1.2,.int .u64 q.2]) 3 (fun _=>rfl) qs;have hlt:k<qs.length:=(List.getElem?_eq_some_iff.1 hk).1;obtain ⟨b,off,rfl,hB,hc⟩:=h.open_ (by unfold VK;rw [hl];omega);have g:=flat_get (fun q:(Int × Int) × Int=>[Value.int .i64 q.1.1,.int .i64 q.1.2,.int .u64 q.2]) 3 (fun _=>rfl) qs k q hk;exact ⟨b,off,rfl,hB,hc _ _ (g 0 (by omega)),hc _ _ (g 1 (by omega)),hc _ _ (g 2 (by omega))⟩
end
section
variable (P:Nat->Prop)(g:Nat)(bs:List Int)(w:World)(B:Nat)(A:Option Addr)(c:Nat)
variable (hP:∀ k,P k->k<w.heap.size)(hw:WS w P g bs)(hlen:bs.length<=400000)(hB:∀ k,k<B->P k)
include hP hw hlen hB
end
end
section
open Go.RowKit
abbrev Gr:=Rg × List (Int × Int)
def qR(w:World)(B:Nat)(gs:List Gr):Prop:=∀ g∈gs,g.1.n=g.2.length/\Sl w B g.1.A (Y7 g.2)
section
variable (op vs XQ:Int)(hrs:List Rg)(HA:Option Addr)(hc:Nat)(gs:List Gr)(GA:Option Addr)(gc:Nat)(ps:List (Int × Int))(PA:Option Addr)(pc:Nat)(qs:List ((Int × Int) × Int))(QA:Option Addr)(qc:Nat)(w:World)
variable (hh:Sl w w.heap.size HA (rgCells hrs))(hgc:Sl w w.heap.size GA (rgCells (gs.map (·.1))))(hgs:qR w w.heap.size gs)(hps:Sl w w.heap.size PA (Y7 ps))(JE:Sl w w.heap.size QA (VK qs))
variable (hn:hrs.length<=maxLen)
include hh hgc hgs hps JE hn
end
end
section
open Go.RowKit
def le:List Int->Int
 | []=>0
 | b::t=>b+256*le t
def By(bs:List Int):Prop:=∀ x∈bs,0<=x/\x<=255
theorem By.tail{b:Int}{t:List Int}(h:By (b::t)):By t:=fun x hx=>h x (by simp [hx])
theorem By.head{b:Int}{t:List Int}(h:By (b::t)):0<=b/\b<=255:=h b (by simp)
theorem By.take{l:List Int}(h:By l)(k:Nat):By (l.take k):=fun x hx=>h x (List.mem_of_mem_take hx)
theorem By.drop{l:List Int}(h:By l)(k:Nat):By (l.drop k):=fun x hx=>h x (List.mem_of_mem_drop hx)
def RS(w:World)(P:Nat->Prop)(B g:Nat)(bs:List Int):Prop :=
 ∃ A c,Z6 w g 264 #[.slice A bs.length c]/\¬ P g/\bs.length<=c/\Sl w B A (WT bs)
section
variable {w w':World}{P R:Nat->Prop}{B g:Nat}{bs:List Int}
theorem RS.lt(h:RS w P B g bs):g<w.heap.size:=by obtain ⟨A,c,h1,_⟩:=h;exact h1.lt
theorem RS.step(h:RS w P B g bs)(hb:Below w.heap.size w w')(hB:∀ k,k<B->P k)(hP:∀ k,P k->k<w.heap.size):RS w' P B g bs:=by
 obtain ⟨A,c,h1,h2,h3,h4⟩:=h;exact ⟨A,c,h1.step hb,h2,h3,h4.kept (Z9.of_below hb hP) hB⟩
theorem RS.mono(h:RS w P B g bs)(hR:∀ k,R k->P k):RS w R B g bs:=by
 obtain ⟨A,c,h1,h2,h3,h4⟩:=h;exact ⟨A,c,h1,fun hr=>h2 (hR _ hr),h3,h4⟩
theorem Z9.set{b:Nat}(hb:¬ P b)(o:Nat)(u:Value)(w:World):Z9 P w (w.setCell ⟨b,o,none⟩ u) :=
 ⟨rfl,rfl,rfl,by rw [World.size_setCell];exact Nat.le_refl _,fun k hk=>Below.heap_setCell w _ u k (by rintro rfl;exact hb hk)⟩
theorem RS.far(h:RS w P B g bs){b:Nat}(hg:g≠b)(hb:¬ P b)(hB:∀ k,k<B->P k)(o:Nat)(u:Value):RS (w.setCell ⟨b,o,none⟩ u) P B g bs:=by
 obtain ⟨A,c,h1,h2,h3,h4⟩:=h;exact ⟨A,c,h1.far (p:=⟨b,o,none⟩) hg u,h2,h3,h4.kept (Z9.set hb o u w) hB⟩
theorem RS.more(h:RS w P B g bs)(hb:Below w.heap.size w w')(hB:∀ k,k<B->P k)(hP:∀ k,P k->k<w.heap.size):RS w' (More P w w') B g bs:=by
 have hl:=h.lt;obtain ⟨A,c,h1,h2,h3,h4⟩:=h.step hb hB hP;exact ⟨A,c,h1,fun hm=>by rcases hm with hm|hm;exact h2 hm;omega,h3,h4⟩
end
section
variable (P:Nat->Prop)(B g:Nat)(w:World)(hB:∀ k,k<B->P k)
include hB
end
end
section
open Go.RowKit
def recAt(bs:List Int)(i:Nat):Int × Int:=(bs.getD (9*i) 0,le ((bs.drop (9*i+1)).take 8))
def Ce(bs:List Int)(n:Nat):List (Int × Int):=(List.range n).map (recAt bs)
theorem I4:(prog.info? 148).map (fun i=>(i.zero,i.size,i.bytes))=some (some (.agg #[.int .u64 0,.int .u64 0]),2,16):=by kernel_rfl
theorem Rp(n:Nat)(hn:n<=1000000)(w:World):(Instr.makeSlice 110 (.int .i64 (n:Int)) (.int .i64 (n:Int))).run prog w=.ok (.slice (some ⟨w.heap.size,0,none⟩) n n) (w.alloc (.cells (madeCells #[.int .u64 0,.int .u64 0] (n*2)) 148)):=by
 obtain ⟨i,hi,hz0,hz1,hz2⟩:=info_parts I4;have h:=run_make (P:=prog) w 110 148 i _ underlying110 hi hz0 .i64 .i64 n n (by omega) (Int.le_refl _) (by rw [hz2];omega) (by omega);rw [hz1] at h;simpa [Value.cells] using h
theorem PO{w:World}{g:Nat}{t:TypeId}{cs:Array Value}(h:Z6 w g t cs){xs:List Value}(hx:∀ (j:Nat) u,xs[j]?=some u->cs[j]?=some u):Sl w w.heap.size (some ⟨g,0,none⟩) xs :=
 Sl.mk h.lt fun j u hu=>by rw [Nat.zero_add];exact h.cell (hx j u hu)
section
variable (P:Nat->Prop)(B g:Nat)(w:World)(hB:∀ k,k<B->P k)
include hB
end
end
section
open Go.RowKit
def vH(cnt:Int)(i:Nat)(r:Int × Int):Bool:=if (i:Int)<cnt then r.1 == 1 else (r.1 == 0 && r.2 == 0)
def IJ(cnt:Int):Nat->List (Int × Int)->Bool
 | _,[]=>true
 | i,r::t=>vH cnt i r && IJ cnt (i+1) t
def most(op:Int):Int:=if op=3 then 3 else if op=5 then 1 else 2
def nP(val XQ:Int):Int:=if val=0 then 0 else XQ
def vC(op XQ val cnt:Int)(recs:List (Int × Int)):Bool :=
 if val<0 then false else if most op<val then false else if (recs.length:Int)≠XQ then false else if cnt<0 then false else if nP val XQ<cnt then false else IJ cnt 0 recs
section
variable (op vs XQ val cnt:Int)(HA RA:Option Addr)(hn hc rc:Nat)(recs:List (Int × Int))(w:World)
variable (hs:Sl w w.heap.size RA (ZE recs))(hrn:recs.length<=maxLen)(hp0:0<=XQ)(hp1:XQ<=4096)
include hs hrn hp0 hp1
end
end
section
open Go.RowKit
structure xL where
 val:Int
 cnt:Int
 recs:List (Int × Int)
def WR:xL:=⟨0,0,[]⟩
def LY(op XQ:Int)(bs:List Int):xL :=
 ⟨bs.getD 1 0,if op=5 then bs.getD 2 0+bs.getD 3 0*256 else 0,if op=5 then Ce (bs.drop 4) XQ.toNat else []⟩
def hread(op vs:Int)(hrs:List Rg)(XQ:Int)(bs:List Int):xL × Int :=
 if M5 op vs hrs XQ≠0 then (WR,M5 op vs hrs XQ)
 else if bs.length=1 then (WR,if 4<=bs.getD 0 0/\bs.getD 0 0<=8 then bs.getD 0 0 else 10)
 else if (bs.length:Int)≠uH op vs hrs XQ then (WR,8)
 else if bs.getD 0 0≠0 then (WR,10)
 else if vC op XQ (LY op XQ bs).val (LY op XQ bs).cnt (LY op XQ bs).recs=false then (WR,10)
 else (LY op XQ bs,0)
section
variable (op vs XQ:Int)(hrs:List Rg)(HA:Option Addr)(hc:Nat)(bs:List Int)(BA:Option Addr)(bc:Nat)(w:World)
variable (hh:Sl w w.heap.size HA (rgCells hrs))(hn:hrs.length<=maxLen)(hs:Sl w w.heap.size BA (WT bs))(hbc:bs.length<=bc)(hbl:bs.length<=100000)(hby:By bs)
include hh hn hs hbc hbl hby
end
end
section
open Go.RowKit
def eight(bs:List Int)(k:Nat):List Int:=(bs.drop k).take 8
theorem LX:(prog.info? 41).map (fun i=>(i.zero,i.size,i.bytes))=some (some (.agg #[.int .i64 0,.int .i64 0]),2,16):=by kernel_rfl
section
variable (P:Nat->Prop)(B g:Nat)(w:World)(hB:∀ k,k<B->P k)
include hB
end
theorem Fe:(prog.info? 46).map (fun i=>(i.zero,i.size,i.bytes))=some (some (.agg #[.int .i64 0,.int .i64 0,.int .u64 0]),3,24):=by kernel_rfl
section
variable (P:Nat->Prop)(B g:Nat)(w:World)(hB:∀ k,k<B->P k)
include hB
end
end
section
open Go.RowKit
abbrev Gd:=Bool × Int × List (Int × Int)
structure Rq where
 h:PH
 gs:List Gd
 ps:List (Int × Int)
 qs:List ((Int × Int) × Int)
def Ch:Rq:=⟨Ca,[],[],[]⟩
def zN(g:Gr):Gd:=(g.1.d,g.1.v,g.2)
structure XD(w:World)(B:Nat)(q:Rq)(hrs:List Rg)(HA:Option Addr)(gs:List Gr)(GA PA QA:Option Addr):Prop where
 hh:Sl w B HA (rgCells hrs)
 hk:hrs.map Rg.key=q.h.rs.map Rg.key
 hg:Sl w B GA (rgCells (gs.map (·.1)))
 gk:qR w B gs
 gd:gs.map zN=q.gs
 hp:Sl w B PA (Y7 q.ps)
 hq:Sl w B QA (VK q.qs)
theorem XD.zero(w:World)(B:Nat):XD w B Ch [] none [] none none none :=
 ⟨.nil _ _ _,rfl,.nil _ _ _,fun g hg=>by simp at hg,rfl,.nil _ _ _,.nil _ _ _⟩
theorem XD.below{w w':World}{B:Nat}{q:Rq}{hrs:List Rg}{HA:Option Addr}{gs:List Gr}{GA PA QA:Option Addr}(h:XD w B q hrs HA gs GA PA QA)(hb:Below B w w'):XD w' B q hrs HA gs GA PA QA :=
 ⟨h.hh.below hb,h.hk,h.hg.below hb,fun g hg=>⟨(h.gk g hg).1,(h.gk g hg).2.below hb⟩,h.gd,h.hp.below hb,h.hq.below hb⟩
theorem XD.more{w:World}{B B':Nat}{q:Rq}{hrs:List Rg}{HA:Option Addr}{gs:List Gr}{GA PA QA:Option Addr}(h:XD w B q hrs HA gs GA PA QA)(hB:B<=B'):XD w B' q hrs HA gs GA PA QA :=
 ⟨h.hh.more hB,h.hk,h.hg.more hB,fun g hg=>⟨(h.gk g hg).1,(h.gk g hg).2.more hB⟩,h.gd,h.hp.more hB,h.hq.more hB⟩
end
section
open Go.RowKit
section
variable {w w' wa:World}{B C g:Nat}{A:Option Addr}{xs:List Value}{P:Nat->Prop}{bs:List Int}
def QI(w:World)(C:Nat)(gs:List Gr)(v:Value):Prop :=
 w.ownsRow C 38 3 v gs.length (rgCells (gs.map (·.1)))/\∀ g∈gs,g.1.n=g.2.length/\Sl w w.heap.size g.1.A (Y7 g.2)/\(Y7 g.2≠[]->∀ x,g.1.A=some x->C<=x.block/\v.ownBlock≠some x.block)
theorem QI.nil(w:World)(C:Nat):QI w C [] (.slice none 0 0):=⟨World.ownsRow_nil _ _ _ _,fun g hg=>by simp at hg⟩
end
end
end Go.Proofs.YthnenedoblncjaaGreatDoor